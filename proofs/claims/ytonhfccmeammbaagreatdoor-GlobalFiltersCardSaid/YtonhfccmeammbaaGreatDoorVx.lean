/- A part. -/
import Derived.Test.YtonhfccmeammbaaGreatDoorV0
import Derived.Laws.RangeAny
import Derived.Shelf.Unicode.DecodeSlow
set_option linter.all false
namespace Go.Rx
inductive Rx where
 | mk (op mn mx:Int) (rs:List (Int × Int)) (ks:List Rx)
def Rx.op:Rx→Int|.mk o _ _ _ _=>o
theorem Rx.ind{p:Rx→Prop}{q:List Rx→Prop}(h1:∀op mn mx rs ks,q ks→p (.mk op mn mx rs ks))(h2:q [])(h3:∀k ks,p k→q ks→q (k::ks)):(∀e,p e)∧∀l,q l :=
 ⟨fun e=>Rx.rec (motive_1:=p) (motive_2:=q) h1 h2 h3 e,fun l=>Rx.rec_1 (motive_1:=p) (motive_2:=q) h1 h2 h3 l⟩
theorem Rx.ind'{p:Rx→Prop}(h:∀op mn mx rs ks,(∀k∈ks,p k)→p (.mk op mn mx rs ks)):∀e,p e :=
 (Rx.ind (q:=fun l=>∀k∈l,p k) (fun op mn mx rs ks hq=>h op mn mx rs ks hq) (by simp) (fun k ks hk hq x hx=>by
   rw[zAc]at hx
   rcases hx with rfl|hx
   ·exact hk
   ·exact hq x hx)).1
mutual
def sz:Rx→Nat|.mk _ _ _ _ ks=>1+szL ks
def szL:List Rx→Nat|[]=>0|k::ks=>sz k+szL ks
end
mutual
def dp:Rx→Nat|.mk _ _ _ _ ks=>1+dpL ks
def dpL:List Rx→Nat|[]=>0|k::ks=>max (dp k) (dpL ks)
end
def smB(d n:Int):Bool:=decide (d>40)||decide (n>200)
mutual
def sm:Rx→Int→Int→Bool × Int
 | .mk _ _ _ _ ks,d,n=>if smB d (n+1)=true then(false,n+1)else smL ks (d+1) (n+1)
def smL:List Rx→Int→Int→Bool × Int
 | [],_,n=>(true,n)
 | k::ks,d,n=>if(sm k d n).1=true then smL ks d (sm k d n).2 else(false,(sm k d n).2)
end
theorem zs6:(∀(e:Rx) (d n:Int),1≤d→0≤n→n≤200→if d+dp e≤41∧n+sz e≤200 then sm e d n=(true,n+sz e)else(sm e d n).1=false) ∧
 ∀(l:List Rx) (d n:Int),1≤d→0≤n→n≤200→if(l=[]∨d+dpL l≤41)∧n+szL l≤200 then smL l d n=(true,n+szL l)else(smL l d n).1=false:=by
 refine Rx.ind (fun op mn mx rs ks ih d n hd h0 h1=>?_) (fun d n hd h0 h1=>?_) fun k ks ihk ih d n hd h0 h1=>?_
 ·rw[sm,dp,sz]
  by_cases hb:smB d (n+1)=true
  ·rw[zAz hb]
   simp only[smB,zAu,zA3]at hb
   rw[zAy (by omega)]
  ·rw[zAy hb]
   simp only[smB,zAu,zA3,not_or]at hb
   have:=ih (d+1) (n+1) (by omega) (by omega) (by omega)
   have e0:ks=[]→dpL ks=0∧szL ks=0:=fun h=>by subst h;exact⟨rfl,rfl⟩
   by_cases hc:d+((1+dpL ks:Nat):Int)≤41∧n+((1+szL ks:Nat):Int)≤200
   ·rw[zAz hc]
    rw[zAz ⟨.inr (by omega),by omega⟩]at this
    rw[this]
    congr 1;omega
   ·rw[zAy hc]
    rw[zAy (by
     rintro⟨h|h,h'⟩
     ·have:=e0 h;omega
     ·omega)]at this
    exact this
 ·rw[smL,szL,zAz ⟨.inl rfl,by omega⟩]
  simp
 ·rw[smL,dpL,szL]
  have hk:=ihk d n hd h0 h1
  by_cases hc:d+(dp k:Int)≤41∧n+(sz k:Int)≤200
  ·rw[zAz hc]at hk
   rw[hk]
   simp only[if_true]
   have hr:=ih d (n+sz k) hd (by omega) hc.2
   by_cases hc2:(ks=[]∨d+(dpL ks:Int)≤41)∧n+sz k+(szL ks:Int)≤200
   ·rw[zAz hc2]at hr
    have:ks=[]→dpL ks=0:=fun h=>by subst h;rfl
    rw[zAz ⟨.inr (by rcases hc2.1 with h|h <;> first|(have:=this h;omega)|omega),by omega⟩,hr]
    congr 1;omega
   ·rw[zAy hc2]at hr
    rw[zAy fun h=>hc2 ⟨.inr (by rcases h.1 with h|h <;> first|(simp at h;done)|omega),by omega⟩]
    exact hr
  ·rw[zAy hc]at hk
   rw[zAy (by
    rintro⟨h|h,h'⟩
    ·simp at h
    ·omega),hk,zAy (by simp)]
def zdr:Int→List (Int × Int)→Bool
 | _,[]=>true
 | least,r::rs=>decide (least≤r.1)&&decide (r.1≤r.2)&&decide (r.2≤1114111)&&zdr (r.2+2) rs
def zpq(l:List (Int × Int)):Bool:=zdr 0 l&&decide (0<l.length)
def z73(op:Int)(ks:List Rx):Bool:=ks.all fun k=>!decide (k.op=op)
def vn:Rx→Bool
 | .mk op mn mx rs ks =>
  if op=1 then decide (mn=0)&&decide (mx=0)&&decide (ks.length=0)&&zpq rs
  else if op=2 then decide (mn=0)&&decide (mx=0)&&decide (rs.length=0)&&!decide (ks.length=1)&&z73 op ks
  else if op=3 then decide (mn=0)&&decide (mx=0)&&decide (rs.length=0)&&decide (1<ks.length)&&z73 op ks
  else if op=4 then decide (rs.length=0)&&decide (ks.length=1)&&decide (0≤mn)&&decide (mn≤16)&&(decide (mx=-1)||(decide (mn≤mx)&&decide (mx≤16)))
  else false
mutual
def vns:Rx→Bool|.mk op mn mx rs ks=>vn (.mk op mn mx rs ks)&&zee ks
def zee:List Rx→Bool|[]=>true|k::ks=>vns k&&zee ks
end
theorem z5g:∀ {l:List Rx},zee l=true→∀k∈l,vns k=true
 | [],_,k,hk=>by simp at hk
 | x::l,h,k,hk=>by
  rw[zee,zA7]at h
  rw[zAc]at hk
  rcases hk with rfl|hk
  ·exact h.1
  ·exact z5g h.2 k hk
def rep(mn mx n:Int):Int:=if mx=-1 then n*max mn 1 else n*mx
mutual
def ps(C:Int):Rx→Int
 | .mk op mn mx rs ks=>if op=1 then 1 else if op=4 then min (rep mn mx (psL C ks 0)) C else min (psL C ks 0) C
def psL(C:Int):List Rx→Int→Int
 | [],n=>n
 | k::ks,n=>psL C ks (min (n+ps C k) C)
end
mutual
def pn:Rx→Int
 | .mk op mn mx rs ks=>if op=1 then 1 else if op=4 then rep mn mx (pnL ks)else pnL ks
def pnL:List Rx→Int
 | []=>0
 | k::ks=>pn k+pnL ks
end
def val(e:Rx):Int:=if 200<sz e∨40<dp e then 2 else if vns e=false then 1 else if 64<pn e then 2 else 0
end Go.Rx
namespace Go.Rx
theorem z7a{op mn mx:Int}{rs:List (Int × Int)}{ks:List Rx}(h:vn (.mk op mn mx rs ks)=true) :
 (op=1∧mn=0∧mx=0∧ks=[]∧zpq rs=true)∨(op=2∧mn=0∧mx=0∧rs=[]∧ks.length≠1∧z73 2 ks=true)∨(op=3∧mn=0∧mx=0∧rs=[]∧1<ks.length∧z73 3 ks=true) ∨
 (op=4∧rs=[]∧(∃k,ks=[k])∧0≤mn∧mn≤16∧(mx=-1∨mn≤mx∧mx≤16)):=by
 rw[vn]at h
 split at h
 ·rename_i h1
  simp only[zA7,zA3]at h
  exact .inl ⟨h1,h.1.1.1,h.1.1.2,List.eq_nil_of_length_eq_zero h.1.2,h.2⟩
 split at h
 ·rename_i h1
  simp only[zA7,zA3,zA6,zA5]at h
  exact .inr (.inl ⟨h1,h.1.1.1.1,h.1.1.1.2,List.eq_nil_of_length_eq_zero h.1.1.2,h.1.2,h1▸h.2⟩)
 split at h
 ·rename_i h1
  simp only[zA7,zA3]at h
  exact .inr (.inr (.inl ⟨h1,h.1.1.1.1,h.1.1.1.2,List.eq_nil_of_length_eq_zero h.1.1.2,h.1.2,h1▸h.2⟩))
 split at h
 ·rename_i h1
  simp only[zA7,zAu,zA3]at h
  refine .inr (.inr (.inr ⟨h1,List.eq_nil_of_length_eq_zero h.1.1.1.1,?_,h.1.1.2,h.1.2,h.2⟩))
  match ks,h.1.1.1.2 with
  | [k],_=>exact⟨k,rfl⟩
 ·cases h
theorem zeu:(∀e:Rx,vns e=true→0≤pn e)∧∀l:List Rx,zee l=true→0≤pnL l:=by
 refine Rx.ind (fun op mn mx rs ks ih h=>?_) (fun _=>by simp[pnL]) fun k ks hk ih h=>?_
 ·rw[vns,zA7]at h
  have:=ih h.2
  rw[pn]
  split
  ·decide
  split
  ·rename_i h4
   rcases z7a h.1 with h1|h1|h1|h1 <;> try omega
   rw[rep]
   split
   ·exact Int.mul_nonneg this (by omega)
   ·exact Int.mul_nonneg this (by omega)
  ·exact this
 ·rw[zee,zA7]at h
  have h1:=hk h.1
  have h2:=ih h.2
  rw[pnL];omega
theorem zp7{C P m:Int}(hC:1≤C)(hP:0≤P)(hm:0≤m):min (min P C*m) C=min (P*m) C:=by
 by_cases h:P≤C
 ·rw[Int.min_eq_left h]
 ·rw[Int.min_eq_right (show C≤P by omega)]
  by_cases h0:m=0
  ·subst h0;rw[Int.mul_zero,Int.mul_zero]
  have h1:C*1≤C*m:=Int.mul_le_mul_of_nonneg_left (by omega) (by omega)
  have h2:P*1≤P*m:=Int.mul_le_mul_of_nonneg_left (by omega) (by omega)
  rw[Int.min_eq_right (show C≤C*m by omega),Int.min_eq_right (show C≤P*m by omega)]
theorem y07{C:Int}(hC:1≤C):(∀e:Rx,vns e=true→ps C e=min (pn e) C)∧∀l:List Rx,zee l=true→∀n,0≤n→n≤C→psL C l n=min (n+pnL l) C:=by
 refine Rx.ind (fun op mn mx rs ks ih h=>?_) (fun _ n h0 h1=>by rw[psL,pnL];omega) fun k ks hk ih h n h0 h1=>?_
 ·rw[vns,zA7]at h
  have h0:=ih h.2 0 (by decide) (by omega)
  have hnn:=zeu.2 ks h.2
  rw[Int.zero_add]at h0
  rw[ps,pn]
  by_cases h1:op=1
  ·rw[zAz h1,zAz h1];omega
  rw[zAy h1,zAy h1]
  by_cases h4:op=4
  ·rw[zAz h4,zAz h4,h0]
   rcases z7a h.1 with h1|h1|h1|h1 <;> try omega
   rw[rep,rep]
   split
   ·exact zp7 hC hnn (by omega)
   ·exact zp7 hC hnn (by omega)
  ·rw[zAy h4,zAy h4,h0];omega
 ·rw[zee,zA7]at h
  have hp:=zeu.1 k h.1
  have hq:=zeu.2 ks h.2
  rw[psL,hk h.1,ih h.2 _ (by omega) (by omega),pnL];omega
abbrev Sh3:=Int × Int × Bool
mutual
def sh:Rx→Int→Sh3
 | .mk op mn mx rs ks,deep=>if 40<deep then(1,deep,true)else shL ks (deep+1) (1,deep,vn (.mk op mn mx rs ks))
def shL:List Rx→Int→Sh3→Sh3
 | [],_,s=>s
 | k::ks,deep,s=>if 200<s.1 then s else shL ks deep (s.1+(sh k deep).1,max s.2.1 (sh k deep).2.1,s.2.2&&(sh k deep).2.2)
end
theorem zjr:(∀(e:Rx) (d:Int),1≤(sh e d).1∧d≤(sh e d).2.1)∧∀(l:List Rx) (d:Int) (s:Sh3),s.1≤(shL l d s).1∧s.2.1≤(shL l d s).2.1:=by
 refine Rx.ind (fun op mn mx rs ks ih d=>?_) (fun d s=>by rw[shL];omega) fun k ks hk ih d s=>?_
 ·rw[sh]
  split
  ·simp
  ·exact ih _ _
 ·rw[shL]
  split
  ·omega
  ·have h1:=hk d
   have h2:=ih d (s.1+(sh k d).1,max s.2.1 (sh k d).2.1,s.2.2&&(sh k d).2.2)
   simp only at h2
   omega
theorem y1u:∀e:Rx,1≤dp e|.mk ..=>by rw[dp];omega
theorem y3g:∀e:Rx,1≤sz e|.mk ..=>by rw[sz];omega
theorem zqx:(∀(e:Rx) (d:Int),1≤d→if d+dp e≤41∧sz e≤200 then sh e d=((sz e:Int),d+dp e-1,vns e)else 200<(sh e d).1∨40<(sh e d).2.1) ∧
 ∀(l:List Rx) (d:Int) (s:Sh3),1≤d→1≤s.1→d-1≤s.2.1→if(l=[]∨d+dpL l≤41)∧s.1+szL l≤200 then shL l d s=(s.1+szL l,max s.2.1 (d+dpL l-1),s.2.2&&zee l)else l=[]∨200<(shL l d s).1∨40<(shL l d s).2.1:=by
 refine Rx.ind (fun op mn mx rs ks ih d hd=>?_) (fun d s hd h1 h2=>?_) fun k ks hk ih d s hd h1 h2=>?_
 ·rw[sh,dp,sz,vns]
  by_cases h40:40<d
  ·rw[zAz h40,zAy (by omega)];exact .inr h40
  rw[zAy h40]
  have:=ih (d+1) (1,d,vn (.mk op mn mx rs ks)) (by omega) (by simp) (by simp only;omega)
  simp only at this
  by_cases hc:(ks=[]∨d+1+(dpL ks:Int)≤41)∧1+(szL ks:Int)≤200
  ·rw[zAz hc]at this
   have e0:ks=[]→dpL ks=0:=fun h=>by subst h;rfl
   rw[this,zAz ⟨by rcases hc.1 with h|h <;> first|(have:=e0 h;omega)|omega,by omega⟩]
   simp only[Prod.mk.injEq,and_true]
   omega
  ·rw[zAy hc]at this
   rw[zAy fun h=>hc ⟨.inr (by omega),by omega⟩]
   rcases this with h|h
   ·exfalso;refine hc ⟨.inl h,?_⟩;subst h;simp[szL]
   ·exact h
 ·by_cases hc:([]=([]:List Rx)∨d+(dpL []:Int)≤41)∧s.1+(szL []:Int)≤200
  ·rw[zAz hc,shL,zee,dpL,szL,Bool.and_true]
   refine Prod.ext (by simp) (Prod.ext ?_ rfl)
   simp only;omega
  ·rw[zAy hc];exact .inl rfl
 ·rw[shL,dpL,szL,zee]
  have m1:=zjr.1 k d
  have hkd:=hk d hd
  have p1:=y1u k
  have p2:=y3g k
  by_cases hb:200<s.1
  ·rw[zAz hb,zAy (by omega)];exact .inr (.inl hb)
  rw[zAy hb]
  have m2:=zjr.2 ks d (s.1+(sh k d).1,max s.2.1 (sh k d).2.1,s.2.2&&(sh k d).2.2)
  by_cases hc:d+(dp k:Int)≤41∧(sz k:Int)≤200
  ·rw[zAz ⟨hc.1,by omega⟩]at hkd
   rw[hkd]at m2⊢
   simp only at m2⊢
   have:=ih d (s.1+sz k,max s.2.1 (d+dp k-1),s.2.2&&vns k) hd (by simp only;omega) (by simp only;omega)
   simp only at this
   by_cases hc2:(ks=[]∨d+(dpL ks:Int)≤41)∧s.1+sz k+(szL ks:Int)≤200
   ·rw[zAz hc2]at this
    have e0:ks=[]→dpL ks=0:=fun h=>by subst h;rfl
    rw[zAz ⟨.inr (by rcases hc2.1 with h|h <;> first|(have:=e0 h;omega)|omega),by omega⟩,this]
    refine Prod.ext (by simp only;omega) (Prod.ext (by simp only;omega) (by simp only;rw[Bool.and_assoc]))
   ·rw[zAy hc2]at this
    rw[zAy fun h=>hc2 ⟨.inr (by rcases h.1 with h|h <;> first|(simp at h;done)|omega),by omega⟩]
    rcases this with h|h
    ·subst h
     right;left
     rw[shL];simp only
     have:¬(s.1+(sz k:Int)+(szL []:Int)≤200):=fun h=>hc2 ⟨.inl rfl,h⟩
     rw[szL]at this;omega
    ·exact .inr h
  ·rw[zAy fun h=>hc ⟨h.1,by omega⟩]at hkd
   rw[zAy fun h=>hc ⟨by rcases h.1 with h|h <;> first|(simp at h;done)|omega,by omega⟩]
   right
   simp only at m2
   omega
theorem y36(e:Rx):val e=if(sm e 1 0).1=false then 2 else if vns e=false then 1 else if 64<ps 65 e then 2 else 0:=by
 have h:=zs6.1 e 1 0 (by decide) (by decide) (by decide)
 rw[val]
 by_cases hc:(1:Int)+dp e≤41∧0+(sz e:Int)≤200
 ·rw[zAz hc]at h
  have h1:(sm e 1 0).1=true:=by rw[h]
  rw[h1,zAy (show ¬(200<sz e∨40<dp e) by omega)]
  exact zD59
 ·rw[zAy hc]at h
  rw[zAz (by omega),zAz h]
theorem y3n(e:Rx):val e=if 200<(sh e 1).1∨40<(sh e 1).2.1 then 2 else if(sh e 1).2.2=false then 1 else if 64<ps 1048576 e then 2 else 0:=by
 have h:=zqx.1 e 1 (by decide)
 rw[val]
 by_cases hc:(1:Int)+dp e≤41∧sz e≤200
 ·rw[zAz hc]at h
  have h1:(sh e 1).1=sz e:=by rw[h]
  have h2:(sh e 1).2.1=1+dp e-1:=by rw[h]
  have h3:(sh e 1).2.2=vns e:=by rw[h]
  rw[h1,h2,h3,zAy (show ¬(200<sz e∨40<dp e) by omega),zAy (show ¬((200:Int)<sz e∨40<(1:Int)+dp e-1) by omega)]
  exact zD59
 ·rw[zAy hc]at h
  rw[zAz (by omega),zAz h]
end Go.Rx
namespace Go.Rx
structure U where
 r:Int
 n:Nat
def nx:List U→Int|[]=> -1|u::_=>u.r
def spA:List Int:=[92,46,91,93,40,41,123,125,124,42,43,63]
def y63(l:List (Int × Int)):Rx:=.mk 1 0 0 l []
def one(a b:Int):Rx:=y63 [(a,b)]
end Go.Rx
namespace Go.Rx
abbrev Rg:=Int × Int
end Go.Rx
namespace Go.Rx
abbrev Lan:=List Int→Prop
theorem zb1{u v:List Int}(e:[]=u++v):u=[]∧v=[]:=List.append_eq_nil_iff.1 e.symm
def cat(a b:Lan):Lan:=fun w=>∃u v,w=u++v∧a u∧b v
def eps:Lan:=fun w=>w=[]
def pow(a:Lan):Nat→Lan
 | 0=>eps
 | n+1=>cat a (pow a n)
def star(a:Lan):Lan:=fun w=>∃n,pow a n w
theorem zdq(a:Lan)(w:List Int):cat a eps w↔a w:=by
 constructor
 ·rintro⟨u,v,rfl,h,rfl⟩;simpa using h
 ·intro h;exact⟨w,[],by simp,h,rfl⟩
theorem zhg(a:Lan)(w:List Int):cat eps a w↔a w:=by
 constructor
 ·rintro⟨u,v,rfl,rfl,h⟩;simpa using h
 ·intro h;exact⟨[],w,rfl,rfl,h⟩
theorem z8v(a b c:Lan)(w:List Int):cat (cat a b) c w↔cat a (cat b c) w:=by
 constructor
 ·rintro⟨_,v,rfl,⟨x,y,rfl,h1,h2⟩,h3⟩;exact⟨x,y++v,by simp,h1,y,v,rfl,h2,h3⟩
 ·rintro⟨x,_,rfl,h1,y,v,rfl,h2,h3⟩;exact⟨x++y,v,by simp,⟨x,y,rfl,h1,h2⟩,h3⟩
theorem z6q{a a' b b':Lan}(h:∀w,a w↔a' w)(h':∀w,b w↔b' w)(w:List Int):cat a b w↔cat a' b' w:=by
 constructor
 ·rintro⟨u,v,e,h1,h2⟩;exact⟨u,v,e,(h u).1 h1,(h' v).1 h2⟩
 ·rintro⟨u,v,e,h1,h2⟩;exact⟨u,v,e,(h u).2 h1,(h' v).2 h2⟩
theorem pow_congr{a b:Lan}(h:∀w,a w↔b w):∀n w,pow a n w↔pow b n w
 | 0,w=>Iff.rfl
 | n+1,w=>z6q h (pow_congr h n) w
theorem pow_add(a:Lan):∀(m n:Nat) (w:List Int),pow a (m+n) w↔cat (pow a m) (pow a n) w
 | 0,n,w=>by rw[Nat.zero_add];exact(zhg _ w).symm
 | m+1,n,w=>by
  rw[show m+1+n=(m+n)+1 by omega]
  exact(z6q (fun _=>Iff.rfl) (pow_add a m n) w).trans (z8v a (pow a m) (pow a n) w).symm
theorem pow_one(a:Lan)(w:List Int):pow a 1 w↔a w:=zdq a w
theorem zfm{a:Lan}{w:List Int}(h:star a w):w=[]∨∃u v,u≠[]∧w=u++v∧a u∧star a v:=by
 obtain⟨n,h⟩:=h
 induction n generalizing w with
 | zero=>exact .inl h
 | succ n ih =>
  obtain⟨u,v,rfl,h1,h2⟩:=h
  by_cases hu:u=[]
  ·subst hu;exact ih h2
  ·exact .inr ⟨u,v,hu,rfl,h1,n,h2⟩
theorem zrj{a:Lan}{u v:List Int}(h:a u)(h':star a v):star a (u++v):=by
 obtain⟨n,h'⟩:=h'
 exact⟨n+1,u,v,rfl,h,h'⟩
theorem zm4(a:Lan):star a []:=⟨0,rfl⟩
mutual
def L(ok:Int→List (Int × Int)→Bool):Rx→Lan
 | .mk op mn mx rs ks=>fun w=>if op=1 then ∃c,w=[c]∧ok c rs=true else if op=2 then LC ok ks w else if op=3 then LU ok ks w
  else ∃n:Nat,mn≤n∧(mx=-1∨(n:Int)≤mx)∧pow (L1 ok ks) n w
def LC(ok:Int→List (Int × Int)→Bool):List Rx→Lan
 | []=>eps
 | k::ks=>cat (L ok k) (LC ok ks)
def LU(ok:Int→List (Int × Int)→Bool):List Rx→Lan
 | []=>fun _=>False
 | k::ks=>fun w=>L ok k w∨LU ok ks w
def L1(ok:Int→List (Int × Int)→Bool):List Rx→Lan
 | []=>eps
 | k::_=>L ok k
end
section
variable(F:Nat→Nat→Prop)(A:Nat→Int→Prop)
def Tl(last:Nat→Prop):Nat→List Int→Prop
 | i,[]=>last i
 | i,c::w=>∃j,F i j∧A j c∧Tl last j w
def Lg(first last:Nat→Prop)(nul:Prop):Lan
 | []=>nul
 | c::w=>∃j,first j∧A j c∧Tl F A last j w
end
theorem z9g{F F':Nat→Nat→Prop}{A A':Nat→Int→Prop}{last last':Nat→Prop}{R:Nat→Prop}(hF:∀i j,R i→(F i j↔F' i j))(hR:∀i j,R i→F i j→R j)(hA:∀i c,R i→(A i c↔A' i c))(hl:∀i,R i→(last i↔last' i)) :
 ∀(w:List Int) (i:Nat),R i→(Tl F A last i w↔Tl F' A' last' i w)
 | [],i,hi=>hl i hi
 | c::w,i,hi=>by
  constructor
  ·rintro⟨j,h1,h2,h3⟩
   have hj:=hR i j hi h1
   exact⟨j,(hF i j hi).1 h1,(hA j c hj).1 h2,(z9g hF hR hA hl w j hj).1 h3⟩
  ·rintro⟨j,h1,h2,h3⟩
   have h1:=(hF i j hi).2 h1
   have hj:=hR i j hi h1
   exact⟨j,h1,(hA j c hj).2 h2,(z9g hF hR hA hl w j hj).2 h3⟩
theorem zd6{F F':Nat→Nat→Prop}{A A':Nat→Int→Prop}{first first' last last':Nat→Prop}{nul nul':Prop}{R:Nat→Prop}(hF:∀i j,R i→(F i j↔F' i j))(hR:∀i j,R i→F i j→R j)(hA:∀i c,R i→(A i c↔A' i c))(hl:∀i,R i→(last i↔last' i))
 (hf:∀i,first i↔first' i) (hfR:∀i,first i→R i) (hn:nul↔nul'):∀w,Lg F A first last nul w↔Lg F' A' first' last' nul' w
 | []=>hn
 | c::w=>by
  constructor
  ·rintro⟨j,h1,h2,h3⟩
   have hj:=hfR j h1
   exact⟨j,(hf j).1 h1,(hA j c hj).1 h2,(z9g hF hR hA hl w j hj).1 h3⟩
  ·rintro⟨j,h1,h2,h3⟩
   have h1:=(hf j).2 h1
   have hj:=hfR j h1
   exact⟨j,h1,(hA j c hj).2 h2,(z9g hF hR hA hl w j hj).2 h3⟩
section
variable{F:Nat→Nat→Prop}{A:Nat→Int→Prop}{Ra Rb fa la fb lb:Nat→Prop}{na nb:Prop}
theorem zbn(hab:∀i,Ra i→Rb i→False)(hFb:∀i j,Rb i→F i j→Rb j)(hla:∀i,la i→Ra i) :
 ∀(w:List Int) (i:Nat),Rb i→(Tl (fun i j=>F i j∨la i∧fb j) A (fun i=>lb i∨nb∧la i) i w↔Tl F A lb i w)
 | [],i,hi=>⟨fun h=>h.elim id fun h=>(hab i (hla i h.2) hi).elim,.inl⟩
 | c::w,i,hi=>by
  constructor
  ·rintro⟨j,h1|h1,h2,h3⟩
   ·have hj:=hFb i j hi h1
    exact⟨j,h1,h2,(zbn hab hFb hla w j hj).1 h3⟩
   ·exact(hab i (hla i h1.1) hi).elim
  ·rintro⟨j,h1,h2,h3⟩
   have hj:=hFb i j hi h1
   exact⟨j,.inl h1,h2,(zbn hab hFb hla w j hj).2 h3⟩
theorem zg9(hab:∀i,Ra i→Rb i→False)(hFa:∀i j,Ra i→F i j→Ra j)(hFb:∀i j,Rb i→F i j→Rb j)(hla:∀i,la i→Ra i)(hlb:∀i,lb i→Rb i)(hfb:∀i,fb i→Rb i) :
 ∀(w:List Int) (i:Nat),Ra i→(Tl (fun i j=>F i j∨la i∧fb j) A (fun i=>lb i∨nb∧la i) i w↔∃u v,w=u++v∧Tl F A la i u∧Lg F A fb lb nb v)
 | [],i,hi=>by
  constructor
  ·rintro(h|h)
   ·exact(hab i hi (hlb i h)).elim
   ·exact⟨[],[],rfl,h.2,h.1⟩
  ·rintro⟨u,v,e,h1,h2⟩
   obtain⟨rfl,rfl⟩:=zb1 e
   exact .inr ⟨h2,h1⟩
 | c::w,i,hi=>by
  constructor
  ·rintro⟨j,h1|h1,h2,h3⟩
   ·obtain⟨u,v,rfl,h4,h5⟩:=(zg9 hab hFa hFb hla hlb hfb w j (hFa i j hi h1)).1 h3
    exact⟨c::u,v,rfl,⟨j,h1,h2,h4⟩,h5⟩
   ·exact⟨[],c::w,rfl,h1.1,j,h1.2,h2,(zbn hab hFb hla w j (hfb j h1.2)).1 h3⟩
  ·rintro⟨u,v,e,h1,h2⟩
   cases u with
   | nil =>
    exact zD88
   | cons d u =>
    simp only[List.cons_append,List.cons.injEq]at e
    obtain⟨rfl,rfl⟩:=e
    obtain⟨j,h3,h4,h5⟩:=h1
    exact⟨j,.inl h3,h4,(zg9 hab hFa hFb hla hlb hfb (u++v) j (hFa i j hi h3)).2 ⟨u,v,rfl,h5,h2⟩⟩
theorem y30(hab:∀i,Ra i→Rb i→False)(hFa:∀i j,Ra i→F i j→Ra j)(hFb:∀i j,Rb i→F i j→Rb j)(hla:∀i,la i→Ra i)(hlb:∀i,lb i→Rb i)(hfa:∀i,fa i→Ra i)(hfb:∀i,fb i→Rb i)(w:List Int) :
 Lg (fun i j=>F i j∨la i∧fb j) A (fun i=>fa i∨na∧fb i) (fun i=>lb i∨nb∧la i) (na∧nb) w↔cat (Lg F A fa la na) (Lg F A fb lb nb) w:=by
 cases w with
 | nil =>
  constructor
  ·rintro⟨h1,h2⟩;exact⟨[],[],rfl,h1,h2⟩
  ·rintro⟨u,v,e,h1,h2⟩
   obtain⟨rfl,rfl⟩:=zb1 e
   exact⟨h1,h2⟩
 | cons c w =>
  constructor
  ·rintro⟨j,h1|h1,h2,h3⟩
   ·obtain⟨u,v,rfl,h4,h5⟩:=(zg9 hab hFa hFb hla hlb hfb w j (hfa j h1)).1 h3
    exact⟨c::u,v,rfl,⟨j,h1,h2,h4⟩,h5⟩
   ·exact⟨[],c::w,rfl,h1.1,j,h1.2,h2,(zbn hab hFb hla w j (hfb j h1.2)).1 h3⟩
  ·rintro⟨u,v,e,h1,h2⟩
   cases u with
   | nil =>
    exact zD88
   | cons d u =>
    simp only[List.cons_append,List.cons.injEq]at e
    obtain⟨rfl,rfl⟩:=e
    obtain⟨j,h3,h4,h5⟩:=h1
    exact⟨j,.inl h3,h4,(zg9 hab hFa hFb hla hlb hfb (u++v) j (hfa j h3)).2 ⟨u,v,rfl,h5,h2⟩⟩
theorem y5t(w:List Int)(hab:∀i,Ra i→Rb i→False)(hFa:∀i j,Ra i→F i j→Ra j)(hFb:∀i j,Rb i→F i j→Rb j)(hla:∀i,la i→Ra i)(hlb:∀i,lb i→Rb i)(hfa:∀i,fa i→Ra i)(hfb:∀i,fb i→Rb i) :
 Lg F A (fun i=>fa i∨fb i) (fun i=>la i∨lb i) (na∨nb) w↔Lg F A fa la na w∨Lg F A fb lb nb w:=by
 have ha:∀w i,Ra i→(Tl F A (fun i=>la i∨lb i) i w↔Tl F A la i w):=fun w i hi=>z9g (R:=Ra) (fun _ _ _=>Iff.rfl) hFa (fun _ _ _=>Iff.rfl) (fun i hi=>⟨fun h=>h.elim id fun h=>(hab i hi (hlb i h)).elim,.inl⟩) w i hi
 have hb:∀w i,Rb i→(Tl F A (fun i=>la i∨lb i) i w↔Tl F A lb i w):=fun w i hi=>z9g (R:=Rb) (fun _ _ _=>Iff.rfl) hFb (fun _ _ _=>Iff.rfl) (fun i hi=>⟨fun h=>h.elim (fun h=>(hab i (hla i h) hi).elim) id,.inr⟩) w i hi
 cases w with
 | nil=>exact Iff.rfl
 | cons c w =>
  constructor
  ·rintro⟨j,h1|h1,h2,h3⟩
   ·exact .inl ⟨j,h1,h2,(ha w j (hfa j h1)).1 h3⟩
   ·exact .inr ⟨j,h1,h2,(hb w j (hfb j h1)).1 h3⟩
  ·rintro(⟨j,h1,h2,h3⟩|⟨j,h1,h2,h3⟩)
   ·exact⟨j,.inl h1,h2,(ha w j (hfa j h1)).2 h3⟩
   ·exact⟨j,.inr h1,h2,(hb w j (hfb j h1)).2 h3⟩
theorem za6:∀(n:Nat) (w:List Int) (i:Nat),w.length≤n→(Tl (fun i j=>F i j∨la i∧fa j) A la i w↔∃u v,w=u++v∧Tl F A la i u∧star (Lg F A fa la na) v)
 | n,[],i,_=>by
  exact zD96
 | 0,c::w,i,h=>by simp at h
 | n+1,c::w,i,hn=>by
  have hw:w.length≤n:=by rw[zAk]at hn;omega
  constructor
  ·rintro⟨j,h1|h1,h2,h3⟩
   ·obtain⟨u,v,rfl,h4,h5⟩:=(za6 n w j hw).1 h3
    exact⟨c::u,v,rfl,⟨j,h1,h2,h4⟩,h5⟩
   ·obtain⟨u,v,rfl,h4,h5⟩:=(za6 n w j hw).1 h3
    exact⟨[],c::(u++v),rfl,h1.1,zrj (u:=c::u) ⟨j,h1.2,h2,h4⟩ h5⟩
  ·rintro⟨u,v,e,h1,h2⟩
   cases u with
   | nil =>
    simp only[List.nil_append]at e;subst e
    rcases zfm h2 with h|⟨x,y,hx,e,h3,h4⟩
    ·simp at h
    ·cases x with
     | nil=>exact absurd rfl hx
     | cons d x =>
      simp only[List.cons_append,List.cons.injEq]at e
      obtain⟨rfl,rfl⟩:=e
      obtain⟨j,h5,h6,h7⟩:=h3
      exact⟨j,.inr ⟨h1,h5⟩,h6,(za6 n (x++y) j hw).2 ⟨x,y,rfl,h7,h4⟩⟩
   | cons d u =>
    simp only[List.cons_append,List.cons.injEq]at e
    obtain⟨rfl,rfl⟩:=e
    obtain⟨j,h3,h4,h5⟩:=h1
    exact⟨j,.inl h3,h4,(za6 n (u++v) j hw).2 ⟨u,v,rfl,h5,h2⟩⟩
theorem zzr(w:List Int):Lg (fun i j=>F i j∨la i∧fa j) A fa la na w↔cat (Lg F A fa la na) (star (Lg F A fa la na)) w:=by
 cases w with
 | nil =>
  exact zD96
 | cons c w =>
  constructor
  ·rintro⟨j,h1,h2,h3⟩
   obtain⟨u,v,rfl,h4,h5⟩:=(za6 (na:=na) _ w j (zAj _)).1 h3
   exact⟨c::u,v,rfl,⟨j,h1,h2,h4⟩,h5⟩
  ·rintro⟨u,v,e,h1,h2⟩
   cases u with
   | nil =>
    simp only[List.nil_append]at e;subst e
    rcases zfm h2 with h|⟨x,y,hx,e,h3,h4⟩
    ·simp at h
    ·cases x with
     | nil=>exact absurd rfl hx
     | cons d x =>
      simp only[List.cons_append,List.cons.injEq]at e
      obtain⟨rfl,rfl⟩:=e
      obtain⟨j,h5,h6,h7⟩:=h3
      exact⟨j,h5,h6,(za6 (na:=na) _ (x++y) j (zAj _)).2 ⟨x,y,rfl,h7,h4⟩⟩
   | cons d u =>
    simp only[List.cons_append,List.cons.injEq]at e
    obtain⟨rfl,rfl⟩:=e
    obtain⟨j,h3,h4,h5⟩:=h1
    exact⟨j,h3,h4,(za6 (na:=na) _ (u++v) j (zAj _)).2 ⟨u,v,rfl,h5,h2⟩⟩
end
end Go.Rx
namespace Go.Rx
theorem ze9{α:Type}{l:List α}{i:Nat}{d:α}(h:l.length≤i):l.getD i d=d:=by simp[List.getD,zAv h]
theorem zr4{α:Type}(a b:List α)(d:α){i:Nat}(h:i<a.length):(a++b).getD i d=a.getD i d:=by simp[List.getD,zAb h]
theorem zn6{α:Type}(a b:List α)(d:α){i:Nat}(h:a.length≤i):(a++b).getD i d=b.getD (i-a.length) d:=by simp[List.getD,zAg h]
structure Tb where
 lv:List (List (Int × Int))
 fo:List Nat
structure Pt where
 f:Nat
 l:Nat
 nu:Bool
def lnk(fr to:Nat):Nat→List Nat→List Nat
 | _,[]=>[]
 | i,x::r=>(if fr.testBit i=true then x ||| to else x)::lnk fr to (i+1) r
def link(t:Tb)(fr to:Nat):Tb:=⟨t.lv,lnk fr to 0 t.fo⟩
def z9s(a b:Pt)(t:Tb):Tb × Pt:=(link t a.l b.f,⟨if a.nu=true then a.f ||| b.f else a.f,if b.nu=true then b.l ||| a.l else b.l,a.nu&&b.nu⟩)
def ptE:Pt:=⟨0,0,true⟩
def ptN:Pt:=⟨0,0,false⟩
def por(a b:Pt):Pt:=⟨a.f ||| b.f,a.l ||| b.l,a.nu||b.nu⟩
def same(t:Tb)(r:Tb × Pt):Bool:=decide (r.1.lv.length=t.lv.length)
def rpl(b:Tb→Tb × Pt)(pl:Bool):Nat→Tb→Pt→Tb × Pt × Bool
 | 0,t,p=>(t,p,false)
 | n+1,t,p=>if same t (b t)=true then((b t).1,ptE,true)else
  rpl b pl n (z9s p (b t).2 (if(pl&&decide (n=0))=true then link (b t).1 (b t).2.l (b t).2.f else(b t).1)).1 (z9s p (b t).2 (if(pl&&decide (n=0))=true then link (b t).1 (b t).2.l (b t).2.f else(b t).1)).2
def opt(b:Tb→Tb × Pt):Nat→Tb→Tb × Pt
 | 0,t=>(t,ptE)
 | n+1,t=>if same t (b t)=true then((b t).1,ptE)else
  ((z9s (b t).2 (opt b n (b t).1).2 (opt b n (b t).1).1).1,⟨(z9s (b t).2 (opt b n (b t).1).2 (opt b n (b t).1).1).2.f,(z9s (b t).2 (opt b n (b t).1).2 (opt b n (b t).1).1).2.l,true⟩)
def rp(b:Tb→Tb × Pt)(mn mx:Int)(t:Tb):Tb × Pt :=
 let r:=rpl b (decide (mx<0)) mn.toNat t ptE
 if r.2.2=true then(r.1,r.2.1)
 else if mx<0∧mn=0 then(link (b r.1).1 (b r.1).2.l (b r.1).2.f,⟨(b r.1).2.f,(b r.1).2.l,true⟩)
 else if mn<mx then z9s r.2.1 (opt b (mx-mn).toNat r.1).2 (opt b (mx-mn).toNat r.1).1
 else(r.1,r.2.1)
mutual
def bd:Rx→Tb→Tb × Pt
 | .mk op mn mx rs ks,t=>if op=1 then(⟨t.lv++[rs],t.fo++[0]⟩,⟨2 ^ t.lv.length,2 ^ t.lv.length,false⟩)else if op=2 then bdC ks t ptE else if op=3 then bdU ks t ptN else rp (fun t=>bd1 ks t) mn mx t
def bdC:List Rx→Tb→Pt→Tb × Pt
 | [],t,p=>(t,p)
 | k::ks,t,p=>bdC ks (z9s p (bd k t).2 (bd k t).1).1 (z9s p (bd k t).2 (bd k t).1).2
def bdU:List Rx→Tb→Pt→Tb × Pt
 | [],t,p=>(t,p)
 | k::ks,t,p=>bdU ks (bd k t).1 (por p (bd k t).2)
def bd1:List Rx→Tb→Tb × Pt
 | [],t=>(t,ptE)
 | k::_,t=>bd k t
end
abbrev bit(x:Nat)(i:Nat):Prop:=x.testBit i=true
def FoR(t:Tb)(i j:Nat):Prop:=(t.fo.getD i 0).testBit j=true
def AcR(ok:Int→List (Int × Int)→Bool)(t:Tb)(j:Nat)(c:Int):Prop:=ok c (t.lv.getD j [])=true
theorem zbj(fr to:Nat):∀(l:List Nat) (i:Nat),(lnk fr to i l).length=l.length
 | [],_=>rfl
 | x::l,i=>by rw[lnk,zAk,zbj fr to l,zAk]
theorem zbq(fr to:Nat):∀(l:List Nat) (i k:Nat),k<l.length→(lnk fr to i l).getD k 0=if fr.testBit (i+k)=true then l.getD k 0 ||| to else l.getD k 0
 | [],_,k,h=>by simp at h
 | x::l,i,0,h=>by simp[lnk]
 | x::l,i,k+1,h=>by
  have:=zbq fr to l (i+1) k (by simpa using h)
  rw[lnk,List.getD_cons_succ,this,List.getD_cons_succ,show i+1+k=i+(k+1) by omega]
theorem zhh{t:Tb}{fr to:Nat}(h:∀i,bit fr i→i<t.fo.length)(i j:Nat):FoR (link t fr to) i j↔FoR t i j∨bit fr i∧bit to j:=by
 unfold FoR link
 simp only
 by_cases hi:i<t.fo.length
 ·rw[zbq fr to t.fo 0 i hi,Nat.zero_add]
  by_cases hb:fr.testBit i=true
  ·rw[zAz hb,Nat.testBit_or,zAu];simp only[bit,hb,true_and]
  ·rw[zAy hb];exact⟨.inl,fun h=>h.elim id fun h=>absurd h.1 hb⟩
 ·have h1:(lnk fr to 0 t.fo).getD i 0=0:=by
   exact ze9 (by rw[zbj];omega)
  have h2:t.fo.getD i 0=0:=by exact ze9 (by omega)
  rw[h1,h2]
  simp only[Nat.zero_testBit,Bool.false_eq_true,false_or,false_iff,not_and]
  intro hb;exact absurd (h i hb) hi
structure Ex(t t':Tb):Prop where
 lv:∃new,t'.lv=t.lv++new
 len:t'.fo.length=t'.lv.length
 old:∀i,i<t.lv.length→t'.fo.getD i 0=t.fo.getD i 0
 row:∀i j,t.lv.length≤i→FoR t' i j→t.lv.length≤j∧j<t'.lv.length
theorem Ex.le{t t':Tb}(h:Ex t t'):t.lv.length≤t'.lv.length:=by
 obtain⟨new,e⟩:=h.lv;rw[e,zAa];omega
theorem Ex.refl{t:Tb}(h:t.fo.length=t.lv.length):Ex t t:=⟨⟨[],by simp⟩,h,fun _ _=>rfl,fun i j hi hf=>by
 unfold FoR at hf
 rw[ze9 (by omega)]at hf
 simp at hf⟩
theorem Ex.trans{t t1 t2:Tb}(h:Ex t t1)(k:Ex t1 t2):Ex t t2:=by
 refine⟨?_,k.len,fun i hi=>(k.old i (zAx hi h.le)).trans (h.old i hi),fun i j hi hf=>?_⟩
 ·obtain⟨a,ha⟩:=h.lv;obtain⟨b,hb⟩:=k.lv;exact⟨a++b,by rw[hb,ha,zAl]⟩
 ·by_cases hi1:i<t1.lv.length
  ·have:FoR t1 i j:=by unfold FoR at hf⊢;rw[←k.old i hi1];exact hf
   have h1:=h.row i j hi this
   exact⟨h1.1,zAx h1.2 k.le⟩
  ·have h1:=k.row i j (by omega) hf
   exact⟨Nat.le_trans h.le h1.1,h1.2⟩
theorem Ex.link{t t1:Tb}(h:Ex t t1){fr to:Nat}(hf:∀i,bit fr i→t.lv.length≤i∧i<t1.lv.length)(ht:∀i,bit to i→t.lv.length≤i∧i<t1.lv.length):Ex t (link t1 fr to):=by
 have hfo:∀i,bit fr i→i<t1.fo.length:=fun i hi=>by rw[h.len];exact(hf i hi).2
 refine⟨h.lv,by show(lnk fr to 0 t1.fo).length=_;rw[zbj];exact h.len,fun i hi=>?_,fun i j hi hfl=>?_⟩
 ·show(lnk fr to 0 t1.fo).getD i 0=_
  have hlt:i<t1.fo.length:=by rw[h.len];exact zAx hi h.le
  rw[zbq fr to t1.fo 0 i hlt,Nat.zero_add,zAy,h.old i hi]
  intro hb
  have:=(hf i hb).1
  omega
 ·rw[zhh hfo]at hfl
  rcases hfl with h1|⟨h1,h2⟩
  ·exact h.row i j hi h1
  ·exact ht j h2
structure Bl(ok:Int→List (Int × Int)→Bool)(X:Lan)(t t':Tb)(p:Pt):Prop where
 ex:Ex t t'
 fst:∀i,bit p.f i→t.lv.length≤i∧i<t'.lv.length
 lst:∀i,bit p.l i→t.lv.length≤i∧i<t'.lv.length
 lan:∀w,Lg (FoR t') (AcR ok t') (bit p.f) (bit p.l) (p.nu=true) w↔X w
section
variable{ok:Int→List (Int × Int)→Bool}{X Y:Lan}{t t1 t2:Tb}{a b p:Pt}
theorem Bl.iff(h:Bl ok X t t1 p)(e:∀w,X w↔Y w):Bl ok Y t t1 p:=⟨h.ex,h.fst,h.lst,fun w=>(h.lan w).trans (e w)⟩
theorem zg7{F:Nat→Nat→Prop}{A:Nat→Int→Prop}{last first:Nat→Prop}{nul:Prop}(h:∀i,¬first i)(w:List Int):Lg F A first last nul w↔w=[]∧nul:=by
 cases w with
 | nil=>exact⟨fun h=>⟨rfl,h⟩,fun h=>h.2⟩
 | cons c w=>exact⟨fun⟨j,hj,_⟩=>(h j hj).elim,fun h=>by simp at h⟩
theorem ztd(i:Nat):¬bit 0 i:=by simp[bit]
theorem Bl.eps(h:Ex t t1):Bl ok eps t t1 ptE:=⟨h,fun i hi=>(ztd i hi).elim,fun i hi=>(ztd i hi).elim,fun w=>(zg7 ztd w).trans ⟨fun h=>h.1,fun h=>⟨h,rfl⟩⟩⟩
theorem Bl.none(h:Ex t t1):Bl ok (fun _=>False) t t1 ptN:=⟨h,fun i hi=>(ztd i hi).elim,fun i hi=>(ztd i hi).elim,fun w=>(zg7 ztd w).trans ⟨fun h=>by simp[ptN]at h,fun h=>h.elim⟩⟩
theorem Bl.later(h:Bl ok X t t1 a)(k:Ex t1 t2)(w:List Int):Lg (FoR t2) (AcR ok t2) (bit a.f) (bit a.l) (a.nu=true) w↔X w:=by
 rw[←h.lan w]
 refine zd6 (R:=fun i=>t.lv.length≤i∧i<t1.lv.length) (fun i j hi=>?_) (fun i j hi hf=>?_) (fun i c hi=>?_) (fun _ _=>Iff.rfl) (fun _=>Iff.rfl) h.fst Iff.rfl w
 ·unfold FoR;rw[k.old i hi.2]
 ·have:FoR t1 i j:=by unfold FoR at hf⊢;rw[←k.old i hi.2];exact hf
  exact h.ex.row i j hi.1 this
 ·unfold AcR
  obtain⟨new,e⟩:=k.lv
  rw[e,zr4 _ _ _ hi.2]
theorem zix(h:Ex t t1)(k:Ex t1 t2)(i j:Nat)(hi:t.lv.length≤i∧i<t1.lv.length)(hf:FoR t2 i j):t.lv.length≤j∧j<t1.lv.length:=by
 have:FoR t1 i j:=by unfold FoR at hf⊢;rw[←k.old i hi.2];exact hf
 exact h.row i j hi.1 this
theorem Bl.cat(h:Bl ok X t t1 a)(k:Bl ok Y t1 t2 b):Bl ok (cat X Y) t (z9s a b t2).1 (z9s a b t2).2:=by
 have l1:=h.ex.le;have l2:=k.ex.le
 have hfl:∀i,bit a.l i→i<t2.fo.length:=fun i hi=>by rw[k.ex.len];have:=(h.lst i hi).2;omega
 have e1:∀i,bit (z9s a b t2).2.f i↔bit a.f i∨a.nu=true∧bit b.f i:=fun i=>by
  simp only[z9s,bit]
  cases a.nu <;> simp[Nat.testBit_or]
 have e2:∀i,bit (z9s a b t2).2.l i↔bit b.l i∨b.nu=true∧bit a.l i:=fun i=>by
  simp only[z9s,bit]
  cases b.nu <;> simp[Nat.testBit_or]
 have e3:((z9s a b t2).2.nu=true)↔(a.nu=true∧b.nu=true):=by simp[z9s]
 refine⟨(h.ex.trans k.ex).link (fun i hi=>⟨(h.lst i hi).1,zAx (h.lst i hi).2 l2⟩) fun i hi=>⟨Nat.le_trans l1 (k.fst i hi).1,(k.fst i hi).2⟩,fun i hi=>?_,fun i hi=>?_,fun w=>?_⟩
 ·rcases(e1 i).1 hi with h1|⟨_,h1⟩
  ·exact⟨(h.fst i h1).1,zAx (h.fst i h1).2 l2⟩
  ·exact⟨Nat.le_trans l1 (k.fst i h1).1,(k.fst i h1).2⟩
 ·rcases(e2 i).1 hi with h1|⟨_,h1⟩
  ·exact⟨Nat.le_trans l1 (k.lst i h1).1,(k.lst i h1).2⟩
  ·exact⟨(h.lst i h1).1,zAx (h.lst i h1).2 l2⟩
 ·have key:=y30 (F:=FoR t2) (A:=AcR ok t2) (Ra:=fun i=>t.lv.length≤i∧i<t1.lv.length) (Rb:=fun i=>t1.lv.length≤i∧i<t2.lv.length) (fa:=bit a.f) (la:=bit a.l) (fb:=bit b.f) (lb:=bit b.l) (na:=a.nu=true) (nb:=b.nu=true)
   (fun i h1 h2=>by omega) (fun i j hi hf=>zix h.ex k.ex i j hi hf) (fun i j hi hf=>k.ex.row i j hi.1 hf) h.lst k.lst h.fst k.fst w
  have step:Lg (FoR (z9s a b t2).1) (AcR ok (z9s a b t2).1) (bit (z9s a b t2).2.f) (bit (z9s a b t2).2.l) ((z9s a b t2).2.nu=true) w ↔
   Lg (fun i j=>FoR t2 i j∨bit a.l i∧bit b.f j) (AcR ok t2) (fun i=>bit a.f i∨a.nu=true∧bit b.f i) (fun i=>bit b.l i∨b.nu=true∧bit a.l i) (a.nu=true∧b.nu=true) w :=
   zd6 (R:=fun _=>True) (fun i j _=>zhh hfl i j) (fun _ _ _ _=>trivial) (fun _ _ _=>Iff.rfl) (fun i _=>e2 i) e1 (fun _ _=>trivial) e3 w
  exact(step.trans key).trans (z6q (h.later k.ex) k.lan w)
theorem Bl.or(h:Bl ok X t t1 a)(k:Bl ok Y t1 t2 b):Bl ok (fun w=>X w∨Y w) t t2 (por a b):=by
 have l1:=h.ex.le;have l2:=k.ex.le
 have e1:∀i,bit (por a b).f i↔bit a.f i∨bit b.f i:=fun i=>by simp[por,bit,Nat.testBit_or]
 have e2:∀i,bit (por a b).l i↔bit a.l i∨bit b.l i:=fun i=>by simp[por,bit,Nat.testBit_or]
 have e3:((por a b).nu=true)↔(a.nu=true∨b.nu=true):=by simp[por]
 refine⟨h.ex.trans k.ex,fun i hi=>?_,fun i hi=>?_,fun w=>?_⟩
 ·rcases(e1 i).1 hi with h1|h1
  ·exact⟨(h.fst i h1).1,zAx (h.fst i h1).2 l2⟩
  ·exact⟨Nat.le_trans l1 (k.fst i h1).1,(k.fst i h1).2⟩
 ·rcases(e2 i).1 hi with h1|h1
  ·exact⟨(h.lst i h1).1,zAx (h.lst i h1).2 l2⟩
  ·exact⟨Nat.le_trans l1 (k.lst i h1).1,(k.lst i h1).2⟩
 ·have key:=y5t (F:=FoR t2) (A:=AcR ok t2) (Ra:=fun i=>t.lv.length≤i∧i<t1.lv.length) (Rb:=fun i=>t1.lv.length≤i∧i<t2.lv.length) (fa:=bit a.f) (la:=bit a.l) (fb:=bit b.f) (lb:=bit b.l) (na:=a.nu=true) (nb:=b.nu=true)
   w (fun i h1 h2=>by omega) (fun i j hi hf=>zix h.ex k.ex i j hi hf) (fun i j hi hf=>k.ex.row i j hi.1 hf) h.lst k.lst h.fst k.fst
  have step:Lg (FoR t2) (AcR ok t2) (bit (por a b).f) (bit (por a b).l) ((por a b).nu=true) w ↔
   Lg (FoR t2) (AcR ok t2) (fun i=>bit a.f i∨bit b.f i) (fun i=>bit a.l i∨bit b.l i) (a.nu=true∨b.nu=true) w :=
   zd6 (R:=fun _=>True) (fun i j _=>Iff.rfl) (fun _ _ _ _=>trivial) (fun _ _ _=>Iff.rfl) (fun i _=>e2 i) e1 (fun _ _=>trivial) e3 w
  exact(step.trans key).trans (or_congr (h.later k.ex w) (k.lan w))
theorem Bl.plus(h:Bl ok X t t1 p):Bl ok (Go.Rx.cat X (star X)) t (link t1 p.l p.f) p:=by
 have hfl:∀i,bit p.l i→i<t1.fo.length:=fun i hi=>by rw[h.ex.len];exact(h.lst i hi).2
 refine⟨h.ex.link h.lst h.fst,h.fst,h.lst,fun w=>?_⟩
 have key:=zzr (F:=FoR t1) (A:=AcR ok t1) (fa:=bit p.f) (la:=bit p.l) (na:=p.nu=true) w
 have step:Lg (FoR (link t1 p.l p.f)) (AcR ok (link t1 p.l p.f)) (bit p.f) (bit p.l) (p.nu=true) w↔Lg (fun i j=>FoR t1 i j∨bit p.l i∧bit p.f j) (AcR ok t1) (bit p.f) (bit p.l) (p.nu=true) w :=
  zd6 (R:=fun _=>True) (fun i j _=>zhh hfl i j) (fun _ _ _ _=>trivial) (fun _ _ _=>Iff.rfl) (fun i _=>Iff.rfl) (fun _=>Iff.rfl) (fun _ _=>trivial) Iff.rfl w
 refine(step.trans key).trans (z6q h.lan (fun w=>?_) w)
 exact exists_congr fun n=>pow_congr h.lan n w
theorem Bl.nul(h:Bl ok X t t1 p):Bl ok (fun w=>w=[]∨X w) t t1 ⟨p.f,p.l,true⟩:=by
 refine⟨h.ex,h.fst,h.lst,fun w=>?_⟩
 cases w with
 | nil=>exact⟨fun _=>.inl rfl,fun _=>rfl⟩
 | cons c w =>
  constructor
  ·intro hw;exact .inr ((h.lan (c::w)).1 hw)
  ·rintro(hw|hw)
   ·simp at hw
   ·exact(h.lan (c::w)).2 hw
end
end Go.Rx
namespace Go.Rx
def PW(X:Lan)(pl:Bool)(n:Nat):Lan:=if pl=true∧0<n then cat (pow X n) (star X)else pow X n
structure Kid(ok:Int→List (Int × Int)→Bool)(X:Lan)(P:Int)(b:Tb→Tb × Pt):Prop where
 bl:∀t,t.fo.length=t.lv.length→Bl ok X t (b t).1 (b t).2
 nol:∀t,t.fo.length=t.lv.length→(b t).1.lv.length=t.lv.length→(b t).2.nu=true
 few:∀t,t.fo.length=t.lv.length→((b t).1.lv.length:Int)≤t.lv.length+P
section
variable{ok:Int→List (Int × Int)→Bool}{X:Lan}{P:Int}{b:Tb→Tb × Pt}
theorem Kid.eps(h:Kid ok X P b){t:Tb}(ht:t.fo.length=t.lv.length)(hs:same t (b t)=true)(w:List Int):X w↔w=[]:=by
 rw[same,zA3]at hs
 have h1:=h.bl t ht
 rw[←h1.lan w,zg7 fun i hi=>by have:=h1.fst i hi;omega]
 exact⟨fun h=>h.1,fun h2=>⟨h2,h.nol t ht hs⟩⟩
theorem zdd(h:∀w,X w↔w=[]):∀n w,pow X n w↔w=[]
 | 0,w=>Iff.rfl
 | n+1,w=>by
  constructor
  ·rintro⟨u,v,rfl,h1,h2⟩
   rw[(h u).1 h1,(zdd h n v).1 h2];rfl
  ·rintro rfl;exact⟨[],[],rfl,(h []).2 rfl,(zdd h n []).2 rfl⟩
theorem zn3(h:Kid ok X P b)(pl:Bool):∀(n:Nat) (t0 t:Tb) (p:Pt) (Z:Lan),Bl ok Z t0 t p →
 ((rpl b pl n t p).2.2=false∧Bl ok (cat Z (PW X pl n)) t0 (rpl b pl n t p).1 (rpl b pl n t p).2.1∧((n=0∧(rpl b pl n t p).2.1=p)∨t.lv.length<(rpl b pl n t p).1.lv.length)) ∨
 ((rpl b pl n t p).2.2=true∧(∀w,X w↔w=[])∧Bl ok Go.Rx.eps t0 (rpl b pl n t p).1 (rpl b pl n t p).2.1∧(rpl b pl n t p).2.1.nu=true)
 | 0,t0,t,p,Z,hz=>.inl ⟨rfl,hz.iff fun w=>by
  have:PW X pl 0=Go.Rx.eps:=by rw[PW,zAy (by simp)];rfl
  rw[this];exact(zdq Z w).symm,.inl ⟨rfl,rfl⟩⟩
 | n+1,t0,t,p,Z,hz=>by
  have ht:=hz.ex.len
  have h1:=h.bl t ht
  rw[rpl]
  by_cases hs:same t (b t)=true
  ·rw[zAz hs]
   exact .inr ⟨rfl,h.eps ht hs,Bl.eps (hz.ex.trans h1.ex),rfl⟩
  rw[zAy hs]
  have hlt:t.lv.length<(b t).1.lv.length:=by
   have:=h1.ex.le
   simp only[same,zA3]at hs
   omega
  have hy:∃Y,Bl ok Y t (if(pl&&decide (n=0))=true then link (b t).1 (b t).2.l (b t).2.f else(b t).1) (b t).2∧∀w,cat Y (PW X pl n) w↔PW X pl (n+1) w:=by
   by_cases hc:(pl&&decide (n=0))=true
   ·rw[zAz hc]
    simp only[zA7,zA3]at hc
    obtain⟨rfl,rfl⟩:=hc
    refine⟨_,h1.plus,fun w=>?_⟩
    have e0:PW X true 0=Go.Rx.eps:=by rw[PW,zAy (by simp)];rfl
    have e1:PW X true (0+1)=cat (pow X 1) (star X):=by rw[PW,zAz (by simp)]
    rw[e0,e1,zdq]
    exact z6q (fun w=>(pow_one X w).symm) (fun _=>Iff.rfl) w
   ·rw[zAy hc]
    refine⟨_,h1,fun w=>?_⟩
    simp only[zA7,zA3,not_and]at hc
    by_cases hp:pl=true
    ·have hn0:=hc hp
     rw[PW,PW,zAz ⟨hp,by omega⟩,zAz ⟨hp,by omega⟩]
     exact(z8v X (pow X n) (star X) w).symm
    ·rw[PW,PW,zAy fun h=>hp h.1,zAy fun h=>hp h.1]
     exact Iff.rfl
  obtain⟨Y,hy1,hy2⟩:=hy
  have hlv:(if(pl&&decide (n=0))=true then link (b t).1 (b t).2.l (b t).2.f else(b t).1).lv=(b t).1.lv:=by split <;> rfl
  generalize (if(pl&&decide (n=0))=true then link (b t).1 (b t).2.l (b t).2.f else(b t).1)=t1 at hy1 hlv
  have hc:=hz.cat hy1
  have hcl:(z9s p (b t).2 t1).1.lv=t1.lv:=rfl
  rcases zn3 h pl n t0 _ _ _ hc with⟨r1,r2,r3⟩|⟨r1,r2,r3,r4⟩
  ·refine .inl ⟨r1,r2.iff fun w=>(z8v Z Y _ w).trans (z6q (fun _=>Iff.rfl) hy2 w),.inr ?_⟩
   rcases r3 with⟨rfl,_⟩|r3
   ·show t.lv.length<(z9s p (b t).2 t1).1.lv.length
    rw[hcl,hlv];exact hlt
   ·rw[hcl,hlv]at r3;omega
  ·exact .inr ⟨r1,r2,r3,r4⟩
theorem zow(h:Kid ok X P b)(hP:0≤P)(pl:Bool):∀(n:Nat) (t0 t:Tb) (p:Pt) (Z:Lan),Bl ok Z t0 t p→((rpl b pl n t p).1.lv.length:Int)≤t.lv.length+n*P
 | 0,t0,t,p,Z,hz=>by rw[rpl];simp
 | n+1,t0,t,p,Z,hz=>by
  have ht:=hz.ex.len
  have h1:=h.bl t ht
  have h2:=h.few t ht
  have hnP:0≤(n:Int)*P:=Int.mul_nonneg (by omega) hP
  have e:((n+1:Nat):Int)*P=n*P+P:=by rw[show((n+1:Nat):Int)=(n:Int)+1 by omega,Int.add_mul,Int.one_mul]
  rw[rpl,e]
  by_cases hs:same t (b t)=true
  ·rw[zAz hs];simp only;omega
  rw[zAy hs]
  have hy:∃Y,Bl ok Y t (if(pl&&decide (n=0))=true then link (b t).1 (b t).2.l (b t).2.f else(b t).1) (b t).2:=by
   split
   ·exact⟨_,h1.plus⟩
   ·exact⟨_,h1⟩
  obtain⟨Y,hy⟩:=hy
  have hlv:(if(pl&&decide (n=0))=true then link (b t).1 (b t).2.l (b t).2.f else(b t).1).lv=(b t).1.lv:=by split <;> rfl
  generalize (if(pl&&decide (n=0))=true then link (b t).1 (b t).2.l (b t).2.f else(b t).1)=t1 at hy hlv
  have:=zow h hP pl n t0 _ _ _ (hz.cat hy)
  have hcl:(z9s p (b t).2 t1).1.lv=t1.lv:=rfl
  rw[hcl,hlv]at this
  omega
theorem zwh:∀(n:Nat) (t:Tb),(opt b n t).2.nu=true
 | 0,t=>rfl
 | n+1,t=>by rw[opt];split <;> rfl
theorem zd3(h:Kid ok X P b)(hP:0≤P):∀(n:Nat) (t:Tb),t.fo.length=t.lv.length→Bl ok (fun w=>∃k,k≤n∧pow X k w) t (opt b n t).1 (opt b n t).2∧((opt b n t).1.lv.length:Int)≤t.lv.length+n*P
 | 0,t,ht=>⟨(Bl.eps (Ex.refl ht)).iff fun w=>⟨fun h=>⟨0,zAj _,h⟩,fun⟨k,hk,h⟩=>by have e:k=0:=Nat.le_zero.1 hk;subst e;exact h⟩,by rw[opt];simp⟩
 | n+1,t,ht=>by
  have h1:=h.bl t ht
  have h2:=h.few t ht
  have hnP:0≤(n:Int)*P:=Int.mul_nonneg (by omega) hP
  have e:((n+1:Nat):Int)*P=n*P+P:=by rw[show((n+1:Nat):Int)=(n:Int)+1 by omega,Int.add_mul,Int.one_mul]
  rw[opt,e]
  by_cases hs:same t (b t)=true
  ·rw[zAz hs]
   have hx:=h.eps ht hs
   refine⟨(Bl.eps h1.ex).iff fun w=>?_,by simp only;omega⟩
   constructor
   ·intro hw;exact⟨0,by omega,hw⟩
   ·rintro⟨k,_,hk⟩;exact(zdd hx k w).1 hk
  rw[zAy hs]
  obtain⟨i1,i2⟩:=zd3 h hP n (b t).1 h1.ex.len
  refine⟨((h1.cat i1).nul).iff fun w=>?_,?_⟩
  ·constructor
   ·rintro(rfl|⟨u,v,rfl,h3,k,hk,h4⟩)
    ·exact⟨0,by omega,rfl⟩
    ·exact⟨k+1,by omega,u,v,rfl,h3,h4⟩
   ·rintro⟨k,hk,h3⟩
    cases k with
    | zero=>exact .inl h3
    | succ k =>
     obtain⟨u,v,rfl,h4,h5⟩:=h3
     exact .inr ⟨u,v,rfl,h4,k,by omega,h5⟩
  ·show((opt b n (b t).1).1.lv.length:Int)≤_
   omega
theorem y0s(h:Kid ok X P b)(hP:0≤P){mn mx:Int}(h0:0≤mn)(hm:mx=-1∨mn≤mx):Kid ok (fun w=>∃n:Nat,mn≤n∧(mx=-1∨(n:Int)≤mx)∧pow X n w) (rep mn mx P) (rp b mn mx):=by
 have main:∀t,t.fo.length=t.lv.length→Bl ok (fun w=>∃n:Nat,mn≤n∧(mx=-1∨(n:Int)≤mx)∧pow X n w) t (rp b mn mx t).1 (rp b mn mx t).2∧((rp b mn mx t).1.lv.length=t.lv.length→(rp b mn mx t).2.nu=true)∧((rp b mn mx t).1.lv.length:Int)≤t.lv.length+rep mn mx P:=by
  intro t ht
  have hz:=Bl.eps (ok:=ok) (Ex.refl ht)
  have hr:=zn3 h (decide (mx<0)) mn.toNat t t ptE Go.Rx.eps hz
  have hfew:=zow h hP (decide (mx<0)) mn.toNat t t ptE Go.Rx.eps hz
  have hmn:((mn.toNat:Nat):Int)=mn:=by omega
  rw[hmn]at hfew
  have hrep0:mn*P≤rep mn mx P:=by
   rw[rep]
   split
   ·rw[Int.mul_comm P];exact Int.mul_le_mul_of_nonneg_right (by omega) hP
   ·rw[Int.mul_comm P];exact Int.mul_le_mul_of_nonneg_right (by omega) hP
  rw[rp]
  rcases hr with⟨r1,r2,r3⟩|⟨r1,r2,r3,r4⟩
  ·rw[zAy (by rw[r1];simp)]
   have r2':=r2.iff (zhg _)
   have hr1len:=r2.ex.len
   by_cases c1:mx<0∧mn=0
   ·rw[zAz c1]
    have hmx:mx=-1:=by omega
    have e0:rpl b (decide (mx<0)) mn.toNat t ptE=(t,ptE,false):=by rw[show mn.toNat=0 by omega];rfl
    rw[e0]
    have h1:=h.bl t ht
    have h2:=h.few t ht
    refine⟨(h1.plus.nul).iff fun w=>?_,fun _=>rfl,?_⟩
    ·constructor
     ·rintro(rfl|⟨u,v,rfl,h3,n,h4⟩)
      ·exact⟨0,by omega,.inl hmx,rfl⟩
      ·exact⟨n+1,by omega,.inl hmx,u,v,rfl,h3,h4⟩
     ·rintro⟨n,_,_,h3⟩
      cases n with
      | zero=>exact .inl h3
      | succ n =>
       obtain⟨u,v,rfl,h4,h5⟩:=h3
       exact .inr ⟨u,v,rfl,h4,n,h5⟩
    ·show((b t).1.lv.length:Int)≤_
     rw[rep,zAz hmx,c1.2,show max (0:Int) 1=1 by decide,Int.mul_one];exact h2
   rw[zAy c1]
   by_cases c2:mn<mx
   ·rw[zAz c2]
    obtain⟨o1,o2⟩:=zd3 h hP (mx-mn).toNat (rpl b (decide (mx<0)) mn.toNat t ptE).1 hr1len
    have hpl:decide (mx<0)=false:=by rw[zA5];omega
    have hd:(((mx-mn).toNat:Nat):Int)=mx-mn:=by omega
    rw[hd]at o2
    refine⟨(r2'.cat o1).iff fun w=>?_,fun hl=>?_,?_⟩
    ·rw[hpl]
     have e1:PW X false mn.toNat=pow X mn.toNat:=by rw[PW,zAy (by simp)]
     rw[e1]
     constructor
     ·rintro⟨u,v,rfl,h3,k,hk,h4⟩
      exact⟨mn.toNat+k,by omega,.inr (by omega),(pow_add X _ _ _).2 ⟨u,v,rfl,h3,h4⟩⟩
     ·rintro⟨n,h3,h4,h5⟩
      rw[show n=mn.toNat+(n-mn.toNat) by omega,pow_add]at h5
      obtain⟨u,v,rfl,h6,h7⟩:=h5
      exact⟨u,v,rfl,h6,n-mn.toNat,by omega,h7⟩
    ·have hl':(opt b (mx-mn).toNat (rpl b (decide (mx<0)) mn.toNat t ptE).1).1.lv.length=t.lv.length:=hl
     have hle:=o1.ex.le
     have hle2:=r2.ex.le
     rcases r3 with⟨_,r3⟩|r3
     ·show(_&&_)=true
      rw[r3,zwh];rfl
     ·omega
    ·show((opt b (mx-mn).toNat (rpl b (decide (mx<0)) mn.toNat t ptE).1).1.lv.length:Int)≤_
     rw[rep,zAy (by omega),Int.mul_comm P]
     have:mx*P=mn*P+(mx-mn)*P:=by rw[←Int.add_mul];congr 1;omega
     omega
   ·rw[zAy c2]
    refine⟨r2'.iff fun w=>?_,fun hl=>?_,by simp only;omega⟩
    ·rw[PW]
     by_cases c3:decide (mx<0)=true∧0<mn.toNat
     ·rw[zAz c3]
      have hmx:mx=-1:=by have:=c3.1;rw[zA3]at this;omega
      constructor
      ·rintro⟨u,v,rfl,h3,n,h4⟩
       exact⟨mn.toNat+n,by omega,.inl hmx,(pow_add X _ _ _).2 ⟨u,v,rfl,h3,h4⟩⟩
      ·rintro⟨n,h3,h4,h5⟩
       rw[show n=mn.toNat+(n-mn.toNat) by omega,pow_add]at h5
       obtain⟨u,v,rfl,h6,h7⟩:=h5
       exact⟨u,v,rfl,h6,n-mn.toNat,h7⟩
     ·rw[zAy c3]
      have hmx:¬mx<0:=fun hlt=>by
       have h1:¬(0<mn.toNat):=fun h2=>c3 ⟨by rw[zA3];exact hlt,h2⟩
       omega
      constructor
      ·intro h3;exact⟨mn.toNat,by omega,.inr (by omega),h3⟩
      ·rintro⟨n,h3,h4,h5⟩
       rwa [show mn.toNat=n by omega]
    ·simp only at hl
     rcases r3 with⟨_,r3⟩|r3
     ·rw[r3];rfl
     ·omega
  ·rw[zAz r1]
   refine⟨r3.iff fun w=>?_,fun _=>r4,by simp only;omega⟩
   constructor
   ·intro hw;exact⟨mn.toNat,by omega,by omega,(zdd r2 _ w).2 hw⟩
   ·rintro⟨n,_,_,hn⟩;exact(zdd r2 n w).1 hn
 exact⟨fun t ht=>(main t ht).1,fun t ht=>(main t ht).2.1,fun t ht=>(main t ht).2.2⟩
end
theorem zqp(ok:Int→List (Int × Int)→Bool)(rs:List (Int × Int))(t:Tb)(ht:t.fo.length=t.lv.length):Bl ok (fun w=>∃c,w=[c]∧ok c rs=true) t ⟨t.lv++[rs],t.fo++[0]⟩ ⟨2 ^ t.lv.length,2 ^ t.lv.length,false⟩:=by
 have hb:∀i,bit (2 ^ t.lv.length) i↔i=t.lv.length:=fun i=>by
  rw[bit,Nat.testBit_two_pow];simp[eq_comm]
 have hfo:∀i,t.lv.length≤i→(t.fo++[0]).getD i 0=0:=fun i hi=>by
  by_cases h:i=t.lv.length
  ·subst h;rw[zn6 _ _ _ (by omega)];simp[ht]
  ·exact ze9 (by simp;omega)
 refine⟨⟨⟨[rs],rfl⟩,by simp[ht],fun i hi=>zr4 _ _ _ (by omega),fun i j hi hf=>?_⟩,fun i hi=>?_,fun i hi=>?_,fun w=>?_⟩
 ·unfold FoR at hf
  simp only at hf
  rw[hfo i hi]at hf;simp at hf
 ·rw[hb]at hi;subst hi;simp
 ·rw[hb]at hi;subst hi;simp
 ·have hA:∀c,AcR ok ⟨t.lv++[rs],t.fo++[0]⟩ t.lv.length c↔ok c rs=true:=fun c=>by
   unfold AcR
   simp only
   rw[zn6 _ _ _ (zAj _)];simp
  have hT:∀w,Tl (FoR ⟨t.lv++[rs],t.fo++[0]⟩) (AcR ok ⟨t.lv++[rs],t.fo++[0]⟩) (bit (2 ^ t.lv.length)) t.lv.length w↔w=[]:=fun w=>by
   cases w with
   | nil=>exact⟨fun _=>rfl,fun _=>(hb _).2 rfl⟩
   | cons c w =>
    constructor
    ·rintro⟨j,h1,_⟩
     unfold FoR at h1
     simp only at h1
     rw[hfo _ (zAj _)]at h1;simp at h1
    ·intro h;simp at h
  cases w with
  | nil =>
   constructor
   ·intro h;simp[Lg]at h
   ·rintro⟨c,h,_⟩;simp at h
  | cons c w =>
   constructor
   ·rintro⟨j,h1,h2,h3⟩
    rw[hb]at h1;subst h1
    rw[(hT w).1 h3]
    exact⟨c,rfl,(hA c).1 h2⟩
   ·rintro⟨d,h1,h2⟩
    simp only[List.cons.injEq]at h1
    obtain⟨rfl,rfl⟩:=h1
    exact⟨t.lv.length,(hb _).2 rfl,(hA c).2 h2,(hT []).2 rfl⟩
theorem zot(ok:Int→List (Int × Int)→Bool):(∀e:Rx,vns e=true→Kid ok (L ok e) (pn e) (bd e)) ∧
 ∀l:List Rx,zee l=true →
  (∀(t0 t:Tb) (p:Pt) (Z:Lan),Bl ok Z t0 t p→Bl ok (cat Z (LC ok l)) t0 (bdC l t p).1 (bdC l t p).2∧((bdC l t p).1.lv.length=t.lv.length→p.nu=true→(bdC l t p).2.nu=true)∧((bdC l t p).1.lv.length:Int)≤t.lv.length+pnL l∧t.lv.length≤(bdC l t p).1.lv.length) ∧
  (∀(t0 t:Tb) (p:Pt) (Z:Lan),Bl ok Z t0 t p→Bl ok (fun w=>Z w∨LU ok l w) t0 (bdU l t p).1 (bdU l t p).2∧((bdU l t p).1.lv.length=t.lv.length→l≠[]∨p.nu=true→(bdU l t p).2.nu=true)∧((bdU l t p).1.lv.length:Int)≤t.lv.length+pnL l∧t.lv.length≤(bdU l t p).1.lv.length) ∧
  (∀k,l=[k]→Kid ok (L1 ok l) (pnL l) fun t=>bd1 l t):=by
 refine Rx.ind (fun op mn mx rs ks ih h=>?_) (fun _=>?_) fun k ks hk ih h=>?_
 ·rw[vns,zA7]at h
  obtain⟨iC,iU,i1⟩:=ih h.2
  rcases z7a h.1 with⟨rfl,rfl,rfl,rfl,_⟩|⟨rfl,rfl,rfl,rfl,_,_⟩|⟨rfl,rfl,rfl,rfl,hk,_⟩|⟨rfl,rfl,⟨k,rfl⟩,h1,h2,h3⟩
  ·have e:∀t,bd (.mk 1 0 0 rs []) t=(⟨t.lv++[rs],t.fo++[0]⟩,⟨2 ^ t.lv.length,2 ^ t.lv.length,false⟩):=fun t=>by rw[bd,zAz rfl]
   refine⟨fun t ht=>?_,fun t ht hl=>?_,fun t ht=>?_⟩
   ·rw[e]
    refine(zqp ok rs t ht).iff fun w=>?_
    rw[L];dsimp only;rw[zAz rfl]
   ·rw[e]at hl;simp at hl
   ·rw[e,pn,zAz rfl];simp
  ·have e:∀t,bd (.mk 2 0 0 [] ks) t=bdC ks t ptE:=fun t=>by rw[bd,zAy (by decide),zAz rfl]
   have ep:pn (.mk 2 0 0 [] ks)=pnL ks:=by rw[pn,zAy (by decide),zAy (by decide)]
   refine⟨fun t ht=>?_,fun t ht hl=>?_,fun t ht=>?_⟩
   ·rw[e]
    refine(iC t t ptE _ (Bl.eps (Ex.refl ht))).1.iff fun w=>?_
    rw[L];dsimp only;rw[zAy (by decide),zAz rfl];exact zhg _ w
   ·rw[e]at hl⊢;exact(iC t t ptE _ (Bl.eps (ok:=ok) (Ex.refl ht))).2.1 hl rfl
   ·rw[e,ep];exact(iC t t ptE _ (Bl.eps (ok:=ok) (Ex.refl ht))).2.2.1
  ·have e:∀t,bd (.mk 3 0 0 [] ks) t=bdU ks t ptN:=fun t=>by rw[bd,zAy (by decide),zAy (by decide),zAz rfl]
   have ep:pn (.mk 3 0 0 [] ks)=pnL ks:=by rw[pn,zAy (by decide),zAy (by decide)]
   refine⟨fun t ht=>?_,fun t ht hl=>?_,fun t ht=>?_⟩
   ·rw[e]
    refine(iU t t ptN _ (Bl.none (Ex.refl ht))).1.iff fun w=>?_
    rw[L];dsimp only;rw[zAy (by decide),zAy (by decide),zAz rfl];exact⟨fun h=>h.elim False.elim id,.inr⟩
   ·rw[e]at hl⊢
    exact(iU t t ptN _ (Bl.none (ok:=ok) (Ex.refl ht))).2.1 hl (.inl (by intro h;subst h;simp at hk))
   ·rw[e,ep];exact(iU t t ptN _ (Bl.none (ok:=ok) (Ex.refl ht))).2.2.1
  ·have e:bd (.mk 4 mn mx [] [k])=rp (fun t=>bd1 [k] t) mn mx:=by funext t;rw[bd,zAy (by decide),zAy (by decide),zAy (by decide)]
   have ep:pn (.mk 4 mn mx [] [k])=rep mn mx (pnL [k]):=by rw[pn,zAy (by decide),zAz rfl]
   have hl:∀w,(∃n:Nat,mn≤n∧(mx=-1∨(n:Int)≤mx)∧pow (L1 ok [k]) n w)↔L ok (.mk 4 mn mx [] [k]) w:=fun w=>by
    rw[L];dsimp only;rw[zAy (by decide),zAy (by decide),zAy (by decide)]
   have:=y0s (i1 k rfl) (zeu.2 _ h.2) h1 (by omega:mx=-1∨mn≤mx)
   rw[e,ep]
   exact⟨fun t ht=>(this.bl t ht).iff hl,this.nol,this.few⟩
 ·refine⟨fun t0 t p Z hz=>?_,fun t0 t p Z hz=>?_,fun k hk=>by simp at hk⟩
  ·rw[bdC,LC,pnL]
   exact⟨hz.iff fun w=>(zdq Z w).symm,fun _ h=>h,by simp,zAj _⟩
  ·rw[bdU,pnL]
   exact⟨hz.iff fun w=>⟨.inl,fun h=>h.elim id fun h=>by simp[LU]at h⟩,fun _ h=>h.elim (fun h=>absurd rfl h) id,by simp,zAj _⟩
 ·rw[zee,zA7]at h
  obtain⟨iC,iU,_⟩:=ih h.2
  have ik:=hk h.1
  refine⟨fun t0 t p Z hz=>?_,fun t0 t p Z hz=>?_,fun k' hk'=>?_⟩
  ·have h1:=ik.bl t hz.ex.len
   have h2:=ik.few t hz.ex.len
   obtain⟨j1,j2,j3,j4⟩:=iC t0 _ _ _ (hz.cat h1)
   have hlv:(z9s p (bd k t).2 (bd k t).1).1.lv=(bd k t).1.lv:=rfl
   rw[hlv]at j2 j3 j4
   have hle:=h1.ex.le
   rw[bdC,pnL]
   refine⟨j1.iff fun w=>?_,fun hl hp=>?_,by omega,by omega⟩
   ·rw[LC];exact(z8v Z _ _ w)
   ·refine j2 (by omega) ?_
    show(_&&_)=true
    rw[hp,ik.nol t hz.ex.len (by omega)];rfl
  ·have h1:=ik.bl t hz.ex.len
   have h2:=ik.few t hz.ex.len
   obtain⟨j1,j2,j3,j4⟩:=iU t0 _ _ _ (hz.or h1)
   have hle:=h1.ex.le
   rw[bdU,pnL]
   refine⟨j1.iff fun w=>?_,fun hl hp=>?_,by omega,by omega⟩
   ·rw[LU];exact or_assoc
   ·refine j2 (by omega) (.inr ?_)
    show(_||_)=true
    rw[ik.nol t hz.ex.len (by omega),Bool.or_true]
  ·simp only[List.cons.injEq]at hk'
   obtain⟨rfl,rfl⟩:=hk'
   have e:(fun t=>bd1 [k] t)=bd k:=by funext t;rw[bd1]
   rw[e,pnL,pnL,Int.add_zero,L1]
   exact ik
end Go.Rx
namespace Go.Rx
def nxF(S:Nat):Nat→Nat→List Nat→Nat
 | _,acc,[]=>acc
 | i,acc,x::r=>nxF S (i+1) (if S.testBit i=true then acc ||| x else acc) r
def rdF(ok:Int→List (Int × Int)→Bool)(c:Int)(S:Nat):Nat→Nat→List (List (Int × Int))→Nat
 | _,acc,[]=>acc
 | i,acc,l::r=>rdF ok c S (i+1) (if S.testBit i=true∧ok c l=true then acc ||| 2 ^ i else acc) r
def znu(ok:Int→List (Int × Int)→Bool)(t:Tb)(last:Nat):Nat→List Int→Bool
 | S,[]=>decide (S &&& last≠0)
 | S,c::w=>if rdF ok c (nxF S 0 0 t.fo) 0 0 t.lv=0 then false else znu ok t last (rdF ok c (nxF S 0 0 t.fo) 0 0 t.lv) w
def mtF(ok:Int→List (Int × Int)→Bool)(t:Tb)(p:Pt):List Int→Bool
 | []=>p.nu
 | c::w=>if rdF ok c p.f 0 0 t.lv=0 then false else znu ok t p.l (rdF ok c p.f 0 0 t.lv) w
theorem zrq(S:Nat):∀(l:List Nat) (i acc j:Nat),bit (nxF S i acc l) j↔bit acc j∨∃k,k<l.length∧bit S (i+k)∧bit (l.getD k 0) j
 | [],i,acc,j=>by simp[nxF]
 | x::l,i,acc,j=>by
  rw[nxF,zrq S l (i+1)]
  have h0:bit (if S.testBit i=true then acc ||| x else acc) j↔bit acc j∨bit S i∧bit x j:=by
   by_cases h:S.testBit i=true
   ·rw[zAz h];simp[bit,Nat.testBit_or,h]
   ·rw[zAy h];simp[bit,h]
  rw[h0]
  constructor
  ·rintro((h|⟨h1,h2⟩)|⟨k,h1,h2,h3⟩)
   ·exact .inl h
   ·exact .inr ⟨0,by simp,by simpa using h1,by simpa using h2⟩
   ·exact .inr ⟨k+1,by simpa using h1,by rw[show i+(k+1)=i+1+k by omega];exact h2,by simpa using h3⟩
  ·rintro(h|⟨k,h1,h2,h3⟩)
   ·exact .inl (.inl h)
   ·cases k with
    | zero=>exact .inl (.inr ⟨by simpa using h2,by simpa using h3⟩)
    | succ k=>exact .inr ⟨k,by simpa using h1,by rw[show i+1+k=i+(k+1) by omega];exact h2,by simpa using h3⟩
theorem zec(ok:Int→List (Int × Int)→Bool)(c:Int)(S:Nat):∀(l:List (List (Int × Int))) (i acc j:Nat),bit (rdF ok c S i acc l) j↔bit acc j∨∃k,k<l.length∧j=i+k∧bit S j∧ok c (l.getD k [])=true
 | [],i,acc,j=>by simp[rdF]
 | x::l,i,acc,j=>by
  rw[rdF,zec ok c S l (i+1)]
  have h0:bit (if S.testBit i=true∧ok c x=true then acc ||| 2 ^ i else acc) j↔bit acc j∨j=i∧bit S i∧ok c x=true:=by
   by_cases h:S.testBit i=true∧ok c x=true
   ·rw[zAz h,bit,Nat.testBit_or,Nat.testBit_two_pow,zAu,zA3]
    exact⟨fun h2=>h2.elim .inl fun h2=>.inr ⟨h2.symm,h.1,h.2⟩,fun h2=>h2.elim .inl fun h2=>.inr h2.1.symm⟩
   ·rw[zAy h];simp only[bit];exact⟨.inl,fun h2=>h2.elim id fun h2=>absurd h2.2 h⟩
  rw[h0]
  constructor
  ·rintro((h|⟨rfl,h2,h3⟩)|⟨k,h1,h2,h3,h4⟩)
   ·exact .inl h
   ·exact .inr ⟨0,by simp,by simp,h2,by simpa using h3⟩
   ·exact .inr ⟨k+1,by simpa using h1,by omega,h3,by simpa using h4⟩
  ·rintro(h|⟨k,h1,h2,h3,h4⟩)
   ·exact .inl (.inl h)
   ·cases k with
    | zero =>
     obtain rfl:j=i:=by omega
     exact .inl (.inr ⟨rfl,h3,by simpa using h4⟩)
    | succ k=>exact .inr ⟨k,by simpa using h1,by omega,h3,by simpa using h4⟩
theorem zax{x:Nat}:x=0↔∀i,¬bit x i:=by
 constructor
 ·rintro rfl i;exact ztd i
 ·intro h;exact Nat.eq_of_testBit_eq fun i=>by
   have:=h i
   rw[Nat.zero_testBit]
   simpa[bit]using this
theorem zsy{x y:Nat}:x &&& y≠0↔∃i,bit x i∧bit y i:=by
 constructor
 ·intro h
  false_or_by_contra
  rename_i h2
  refine h (zax.2 fun i hi=>h2 ⟨i,?_⟩)
  simpa[bit,Nat.testBit_and]using hi
 ·rintro⟨i,h1,h2⟩ h
  exact zax.1 h i (by simp[bit,Nat.testBit_and]at *;exact⟨h1,h2⟩)
section
variable{ok:Int→List (Int × Int)→Bool}{t:Tb}
theorem zs8(hr:∀i j,FoR t i j→j<t.lv.length){c:Int}{N:Nat}(hN:∀i,bit N i→i<t.lv.length)(j:Nat):bit (rdF ok c N 0 0 t.lv) j↔bit N j∧AcR ok t j c:=by
 rw[zec]
 constructor
 ·rintro(h|⟨k,h1,h2,h3,h4⟩)
  ·exact(ztd j h).elim
  ·obtain rfl:j=k:=by omega
   exact⟨h3,h4⟩
 ·rintro⟨h1,h2⟩
  exact .inr ⟨j,hN j h1,by omega,h1,h2⟩
theorem zjb(hl:t.fo.length=t.lv.length)(hr:∀i j,FoR t i j→j<t.lv.length)(last:Nat):∀(w:List Int) (S:Nat),znu ok t last S w=true↔∃i,bit S i∧Tl (FoR t) (AcR ok t) (bit last) i w
 | [],S=>by rw[znu,zA3];exact zsy
 | c::w,S=>by
  have hn:∀j,bit (nxF S 0 0 t.fo) j↔∃i,bit S i∧FoR t i j:=fun j=>by
   rw[zrq]
   constructor
   ·rintro(h|⟨k,h1,h2,h3⟩)
    ·exact(ztd j h).elim
    ·exact⟨k,by simpa using h2,h3⟩
   ·rintro⟨i,h1,h2⟩
    refine .inr ⟨i,?_,by simpa using h1,h2⟩
    false_or_by_contra
    rename_i h3
    unfold FoR at h2
    rw[ze9 (by omega)]at h2
    simp at h2
  have hN:∀j,bit (nxF S 0 0 t.fo) j→j<t.lv.length:=fun j hj=>by
   obtain⟨i,_,h⟩:=(hn j).1 hj;exact hr i j h
  have hq:=zs8 (ok:=ok) (c:=c) hr hN
  have key:(∃i,bit S i∧Tl (FoR t) (AcR ok t) (bit last) i (c::w))↔∃j,bit (rdF ok c (nxF S 0 0 t.fo) 0 0 t.lv) j∧Tl (FoR t) (AcR ok t) (bit last) j w:=by
   constructor
   ·rintro⟨i,h1,j,h2,h3,h4⟩
    exact⟨j,(hq j).2 ⟨(hn j).2 ⟨i,h1,h2⟩,h3⟩,h4⟩
   ·rintro⟨j,h1,h2⟩
    obtain⟨h3,h4⟩:=(hq j).1 h1
    obtain⟨i,h5,h6⟩:=(hn j).1 h3
    exact⟨i,h5,j,h6,h4,h2⟩
  rw[znu]
  by_cases h0:rdF ok c (nxF S 0 0 t.fo) 0 0 t.lv=0
  ·rw[zAz h0,key]
   exact⟨fun h=>by simp at h,fun⟨j,h1,_⟩=>(zax.1 h0 j h1).elim⟩
  ·rw[zAy h0,key,zjb hl hr last w]
theorem zux{X:Lan}{p:Pt}(h:Bl ok X ⟨[],[]⟩ t p)(w:List Int):mtF ok t p w=true↔X w:=by
 have hr:∀i j,FoR t i j→j<t.lv.length:=fun i j hf=>(h.ex.row i j (zAf _) hf).2
 rw[←h.lan w]
 cases w with
 | nil=>exact Iff.rfl
 | cons c w =>
  have hq:=zs8 (ok:=ok) (c:=c) hr fun i hi=>(h.fst i hi).2
  have key:Lg (FoR t) (AcR ok t) (bit p.f) (bit p.l) (p.nu=true) (c::w)↔∃j,bit (rdF ok c p.f 0 0 t.lv) j∧Tl (FoR t) (AcR ok t) (bit p.l) j w:=by
   constructor
   ·rintro⟨j,h1,h2,h3⟩;exact⟨j,(hq j).2 ⟨h1,h2⟩,h3⟩
   ·rintro⟨j,h1,h3⟩
    obtain⟨h1,h2⟩:=(hq j).1 h1
    exact⟨j,h1,h2,h3⟩
  rw[mtF,key]
  by_cases h0:rdF ok c p.f 0 0 t.lv=0
  ·rw[zAz h0]
   exact⟨fun h=>by simp at h,fun⟨j,h1,_⟩=>(zax.1 h0 j h1).elim⟩
  ·rw[zAy h0,zjb h.ex.len hr]
end
def mt(ok:Int→List (Int × Int)→Bool)(e:Rx)(w:List Int):Bool:=mtF ok (bd e ⟨[],[]⟩).1 (bd e ⟨[],[]⟩).2 w
theorem zqi(ok:Int→List (Int × Int)→Bool)(e:Rx)(he:vns e=true)(w:List Int):mt ok e w=true↔L ok e w :=
 zux (((zot ok).1 e he).bl ⟨[],[]⟩ rfl) w
end Go.Rx
namespace Go.Rx
open Go
set_option maxRecDepth 100000
theorem zcv(s:ByteArray)(i:Nat)(h:i<s.size):1≤(Utf8.decode s i).2∧i+(Utf8.decode s i).2≤s.size:=by
 unfold Utf8.decode
 simp only[zA7,zA3]
 repeat' split
 all_goals simp only
 all_goals omega
theorem zml{c:Nat}(h:Utf8.valid c=true):c≤1114111:=by
 unfold Utf8.valid at h
 rw[zAu,zA7,zA7,zA3,zA3,zA3,zA3]at h
 omega
theorem zrb(s:ByteArray)(i:Nat):(Utf8.decode s i).1≤1114111:=by
 unfold Utf8.decode
 dsimp only
 repeat' split
 all_goals first
  | (show(65533:Nat)≤1114111;decide)
  | (rename_i h;rw[zA7]at h;exact zml h.2)
  | (simp only;omega)
theorem zxv(s:ByteArray)(i k:Nat):(s.extract i s.size).get! k=s.get! (i+k):=by
 show(s.extract i s.size).data[k]! =s.data[i+k]!
 rw[ByteArray.data_extract,getElem!_def,getElem!_def,Array.getElem?_extract]
 have:s.data.size=s.size:=rfl
 by_cases hk:i+k<s.size
 ·rw[zAz (by omega)]
 ·rw[zAy (by omega),Array.getElem?_eq_none (by omega)]
theorem y0i(s:ByteArray)(i:Nat):Utf8.decode (s.extract i s.size) 0=Utf8.decode s i:=by
 unfold Utf8.decode
 have hs:(s.extract i s.size).size=s.size-i:=by simp
 have hc:∀k,decide (k<(s.extract i s.size).size)=decide (i+k<s.size):=fun k=>by
  rw[hs,decide_eq_decide];omega
 simp only[Nat.zero_add,zxv]
 simp only[hc]
theorem y29(s:ByteArray)(i:Nat)(h:i<s.size):Lib.decodeGo (s.extract i s.size)=Utf8.decode s i:=by
 have hs:(s.extract i s.size).size=s.size-i:=by simp
 unfold Lib.decodeGo
 rw[zAy (by omega),y0i]
def uB(s:ByteArray):Nat→Nat→List U
 | 0,_=>[]
 | f+1,i=>if i<s.size then⟨((Utf8.decode s i).1:Nat),(Utf8.decode s i).2⟩::uB s f (i+(Utf8.decode s i).2)else []
def rst(s:ByteArray)(i:Nat):List U:=uB s (s.size-i) i
theorem zpf(s:ByteArray):∀(f g i:Nat),s.size-i≤f→s.size-i≤g→uB s f i=uB s g i
 | 0,0,i,_,_=>rfl
 | 0,g+1,i,h,_=>by rw[uB,uB,zAy (by omega)]
 | f+1,0,i,_,h=>by rw[uB,uB,zAy (by omega)]
 | f+1,g+1,i,h1,h2=>by
  rw[uB,uB]
  by_cases hi:i<s.size
  ·rw[zAz hi,zAz hi]
   have:=zcv s i hi
   rw[zpf s f g _ (by omega) (by omega)]
  ·rw[zAy hi,zAy hi]
theorem z9y{s:ByteArray}{i:Nat}(h:i<s.size):rst s i=⟨((Utf8.decode s i).1:Nat),(Utf8.decode s i).2⟩::rst s (i+(Utf8.decode s i).2):=by
 have:=zcv s i h
 rw[rst,show s.size-i=(s.size-i-1)+1 by omega,uB,zAz h]
 congr 1
 exact zpf s _ _ _ (by omega) (zAj _)
theorem z68{s:ByteArray}{i:Nat}(h:s.size≤i):rst s i=[]:=by
 rw[rst,show s.size-i=0 by omega];rfl
theorem zy2{s:ByteArray}{i:Nat}(hi:i≤s.size):rst s i=[]↔i=s.size:=by
 constructor
 ·intro h
  false_or_by_contra
  rw[z9y (by omega)]at h;simp at h
 ·intro h;exact z68 (by omega)
theorem zw9{s:ByteArray}{i:Nat}(h:i<s.size):nx (rst s i)=((Utf8.decode s i).1:Nat):=by rw[z9y h];rfl
theorem zgr(s:ByteArray):∀(f i:Nat),s.size-i≤f→(rst s i).length≤s.size-i
 | 0,i,h=>by rw[z68 (by omega)];simp
 | f+1,i,h=>by
  by_cases hl:i<s.size
  ·have:=zcv s i hl
   rw[z9y hl,zAk]
   have:=zgr s f (i+(Utf8.decode s i).2) (by omega)
   omega
  ·rw[z68 (by omega)];simp
end Go.Rx
namespace Go.Rx
structure Sm(t:Tb):Prop where
 len:t.fo.length=t.lv.length
 sm:∀x∈t.fo,x<2 ^ 64
theorem y4f{x n:Nat}(hn:n≤64)(h:∀i,bit x i→i<n):x<2 ^ 64:=by
 refine Nat.lt_pow_two_of_testBit x fun i hi=>?_
 cases hb:x.testBit i with
 | false=>rfl
 | true=>have:=h i hb;omega
section
variable{ok:Int→List (Int × Int)→Bool}{X:Lan}{t t':Tb}{p:Pt}
theorem Bl.sm(h:Bl ok X t t' p)(ht:Sm t)(hl:t'.lv.length≤64):Sm t'∧p.f<2 ^ 64∧p.l<2 ^ 64:=by
 refine⟨⟨h.ex.len,fun x hx=>?_⟩,y4f hl fun i hi=>(h.fst i hi).2,y4f hl fun i hi=>(h.lst i hi).2⟩
 obtain⟨i,hi,hx⟩:=List.mem_iff_getElem.1 hx
 have hg:t'.fo.getD i 0=x:=by simp only[List.getD,zA0 hi];exact hx
 by_cases hlt:i<t.lv.length
 ·have:=h.ex.old i hlt
  rw[hg]at this
  have hlt':i<t.fo.length:=by rw[ht.len];exact hlt
  have hm:=ht.sm (t.fo[i]) (List.getElem_mem hlt')
  have e:t.fo.getD i 0=t.fo[i]:=by simp[List.getD,zA0 hlt']
  rw[this,e];exact hm
 ·refine y4f hl fun j hj=>(h.ex.row i j (by omega) ?_).2
  unfold FoR;rw[hg];exact hj
end
abbrev O1:Int→List (Int × Int)→Bool:=fun _ _=>true
theorem y0y{e:Rx}(h:vns e=true):Kid O1 (L O1 e) (pn e) (bd e):=(zot O1).1 e h
end Go.Rx
namespace Go.Rx
open Go
def zps(r:Int):Prop:=(65≤r∧r≤90)∨(192≤r∧r≤222∧r≠215)∨(913≤r∧r≤937∧r≠930)∨(1040≤r∧r≤1071)
instance(r:Int):Decidable (zps r):=inferInstanceAs (Decidable (_∨_))
def z65(r:Int):Int:=if zps r then r+32 else if 1024≤r∧r≤1039 then r+80 else r
theorem z81(r:Int):z65 r=r∨(65≤r∧r≤90∧z65 r=r+32)∨(192≤r∧r≤1071∧224≤z65 r∧z65 r≤1119∧(z65 r=r+32∨z65 r=r+80)):=by
 unfold z65
 by_cases h:zps r
 ·rw[zAz h]
  unfold zps at h
  omega
 ·rw[zAy h]
  by_cases h2:1024≤r∧r≤1039
  ·rw[zAz h2];omega
  ·rw[zAy h2];exact .inl rfl
def c1:List Nat→Bool
 | x::_=>x / 64 == 2
 | []=>false
def dc(b:Nat)(r:List Nat):Nat × Nat :=
 if b<128 then(b,1)
 else if b / 32 == 6&&c1 r then(if(b % 32)*64+r.getD 0 0 % 64≥128 then((b % 32)*64+r.getD 0 0 % 64,2)else(65533,1))
 else if b / 16 == 14&&c1 r&&c1 r.tail then(if decide ((b % 16)*4096+(r.getD 0 0 % 64)*64+r.getD 1 0 % 64≥2048)&&Utf8.valid (((b % 16)*4096+(r.getD 0 0 % 64)*64+r.getD 1 0 % 64:Nat):Int)then((b % 16)*4096+(r.getD 0 0 % 64)*64+r.getD 1 0 % 64,3)else(65533,1))
 else if b / 8 == 30&&c1 r&&c1 r.tail&&c1 r.tail.tail then(if decide ((b % 8)*262144+(r.getD 0 0 % 64)*4096+(r.getD 1 0 % 64)*64+r.getD 2 0 % 64≥65536)&&Utf8.valid (((b % 8)*262144+(r.getD 0 0 % 64)*4096+(r.getD 1 0 % 64)*64+r.getD 2 0 % 64:Nat):Int)then((b % 8)*262144+(r.getD 0 0 % 64)*4096+(r.getD 1 0 % 64)*64+r.getD 2 0 % 64,4)else(65533,1))
 else(65533,1)
theorem zfx{r:List Nat}(h:c1 r=true):∃x r',r=x::r'∧x / 64=2:=by
 cases r with
 | nil=>simp[c1]at h
 | cons x r=>exact⟨x,r,rfl,by simpa[c1]using h⟩
inductive Dc(b:Nat)(r:List Nat):Nat × Nat→Prop where
 | one (h:b<128):Dc b r (b,1)
 | two (x:Nat) (r':List Nat) (hr:r=x::r') (hx:x / 64=2) (hb:b / 32=6) (h:(b % 32)*64+x % 64≥128):Dc b r ((b % 32)*64+x % 64,2)
 | three (x y:Nat) (r':List Nat) (hr:r=x::y::r') (hx:x / 64=2) (hy:y / 64=2) (hb:b / 16=14) (h:(b % 16)*4096+(x % 64)*64+y % 64≥2048):Dc b r ((b % 16)*4096+(x % 64)*64+y % 64,3)
 | four (x y z:Nat) (r':List Nat) (hr:r=x::y::z::r') (hx:x / 64=2) (hy:y / 64=2) (hz:z / 64=2) (hb:b / 8=30) (h:(b % 8)*262144+(x % 64)*4096+(y % 64)*64+z % 64≥65536):Dc b r ((b % 8)*262144+(x % 64)*4096+(y % 64)*64+z % 64,4)
 | bad (h:128≤b):Dc b r (65533,1)
theorem zuf(b:Nat)(r:List Nat):Dc b r (dc b r):=by
 unfold dc
 by_cases h0:b<128
 ·rw[zAz h0];exact .one h0
 rw[zAy h0]
 by_cases h1:(b / 32 == 6&&c1 r)=true
 ·rw[zAz h1]
  rw[zA7,beq_iff_eq]at h1
  obtain⟨x,r',rfl,hx⟩:=zfx h1.2
  simp only[List.getD_cons_zero]
  split
  ·rename_i h;exact .two x r' rfl hx h1.1 h
  ·exact .bad (by omega)
 rw[zAy h1]
 by_cases h2:(b / 16 == 14&&c1 r&&c1 r.tail)=true
 ·rw[zAz h2]
  simp only[zA7,beq_iff_eq]at h2
  obtain⟨x,r',rfl,hx⟩:=zfx h2.1.2
  obtain⟨y,r',rfl,hy⟩:=zfx h2.2
  simp only[List.getD_cons_zero,List.getD_cons_succ]
  split
  ·rename_i h;simp only[zA7,zA3]at h;exact .three x y r' rfl hx hy h2.1.1 h.1
  ·exact .bad (by omega)
 rw[zAy h2]
 by_cases h3:(b / 8 == 30&&c1 r&&c1 r.tail&&c1 r.tail.tail)=true
 ·rw[zAz h3]
  simp only[zA7,beq_iff_eq]at h3
  obtain⟨x,r',rfl,hx⟩:=zfx h3.1.1.2
  obtain⟨y,r',rfl,hy⟩:=zfx h3.1.2
  obtain⟨z,r',rfl,hz⟩:=zfx h3.2
  simp only[List.getD_cons_zero,List.getD_cons_succ]
  split
  ·rename_i h;simp only[zA7,zA3]at h;exact .four x y z r' rfl hx hy hz h3.1.1.1 h.1
  ·exact .bad (by omega)
 rw[zAy h3];exact .bad (by omega)
def dcL:List Nat→Nat × Nat
 | []=>(65533,1)
 | b::r=>dc b r
theorem zxk{l:List Nat}(h:l≠[]):1≤(dcL l).2∧(dcL l).2≤l.length:=by
 cases l with
 | nil=>exact absurd rfl h
 | cons b r =>
  show 1≤(dc b r).2∧(dc b r).2≤_
  have hd:=zuf b r
  generalize dc b r=q at hd
  cases hd with
  | one h=>simp
  | two x r' hr hx hb h=>subst hr;simp
  | three x y r' hr hx hy hb h=>subst hr;simp
  | four x y z r' hr hx hy hz hb h=>subst hr;simp
  | bad h=>simp
def ec2(c:Nat):List Nat:=if c<128 then [c]else [192+c / 64,128+c % 64]
def zez(c:Nat):Nat:=(z65 (c:Int)).toNat
theorem zh2(c:Nat):((zez c:Nat):Int)=z65 c:=by
 unfold zez
 rcases z81 (c:Int)with h|⟨h1,h2,h3⟩|⟨h1,h2,h3,h4,h5⟩ <;> omega
theorem zc8(c:Nat):zez c=c∨(65≤c∧c≤90∧zez c=c+32)∨(192≤c∧c≤1071∧224≤zez c∧zez c≤1119):=by
 have:=zh2 c
 rcases z81 (c:Int)with h|⟨h1,h2,h3⟩|⟨h1,h2,h3,h4,h5⟩ <;> omega
def pcL(l:List Nat):List Nat:=if zez (dcL l).1=(dcL l).1 then l.take (dcL l).2 else ec2 (zez (dcL l).1)
def fdL:Nat→List Nat→List Nat
 | 0,_=>[]
 | f+1,[]=>[]
 | f+1,b::r=>pcL (b::r)++fdL f ((b::r).drop (dcL (b::r)).2)
theorem zpn(f:Nat):fdL f []=[]:=by cases f <;> rfl
theorem zn5:∀(f g:Nat) (l:List Nat),l.length≤f→l.length≤g→fdL f l=fdL g l
 | f,g,[],_,_=>by rw[zpn,zpn]
 | 0,g,b::r,h,_=>by simp at h
 | f+1,0,b::r,_,h=>by simp at h
 | f+1,g+1,b::r,h1,h2=>by
  have hw:=zxk (l:=b::r) (by simp)
  rw[fdL,fdL,zn5 f g _ (by rw[List.length_drop];omega) (by rw[List.length_drop];omega)]
def fd(l:List Nat):List Nat:=fdL l.length l
theorem zkp{l:List Nat}(h:l≠[]):fd l=pcL l++fd (l.drop (dcL l).2):=by
 cases l with
 | nil=>exact absurd rfl h
 | cons b r =>
  have hw:=zxk (l:=b::r) (by simp)
  rw[fd,zAk,fdL,fd]
  congr 1
  refine zn5 _ _ _ ?_ (zAj _)
  rw[List.length_drop,zAk];omega
def unL:Nat→List Nat→List U
 | 0,_=>[]
 | f+1,[]=>[]
 | f+1,b::r=>⟨((dcL (b::r)).1:Nat),(dcL (b::r)).2⟩::unL f ((b::r).drop (dcL (b::r)).2)
theorem zs2(f:Nat):unL f []=[]:=by cases f <;> rfl
def btN(s:ByteArray):List Nat:=s.data.toList.map UInt8.toNat
theorem z6v(s:ByteArray):(btN s).length=s.size:=by rw[btN,zA4,zAe];rfl
theorem zzh(s:ByteArray)(k:Nat):(btN s).getD k 0=(s.get! k).toNat:=by
 show _=(s.data[k]!).toNat
 rw[btN,getElem!_def,List.getD,zAd,Array.getElem?_toList]
 cases s.data[k]? <;> rfl
theorem zgj(s:ByteArray)(i:Nat)(h:i<s.size):Utf8.decode s i=dcL ((btN s).drop i):=by
 have hl:=z6v s
 have g:∀k,((btN s).drop i).getD k 0=(s.get! (i+k)).toNat:=fun k=>by rw[←zzh,List.getD,List.getD,List.getElem?_drop]
 have hlen:((btN s).drop i).length=s.size-i:=by rw[List.length_drop,hl]
 have c:∀k,c1 (((btN s).drop i).drop k)=(decide (i+k<s.size)&&(s.get! (i+k)).toNat / 64 == 2):=fun k=>by
  rw[←g k]
  by_cases hk:i+k<s.size
  ·have:k<((btN s).drop i).length:=by omega
   rw[List.drop_eq_getElem_cons this,c1,zAi hk,Bool.true_and,List.getD,zA0 this];rfl
  ·rw[List.drop_eq_nil_of_le (by omega),zAo hk];rfl
 cases hd:(btN s).drop i with
 | nil=>rw[hd]at hlen;simp at hlen;omega
 | cons b r =>
  rw[hd]at g c
  have g0:=g 0
  have g1:=g 1
  have g2:=g 2
  have g3:=g 3
  have k1:=c 1
  have k2:=c 2
  have k3:=c 3
  simp only[List.getD_cons_zero,List.getD_cons_succ,List.drop_succ_cons,List.drop_zero,Nat.add_zero]at g0 g1 g2 g3 k1 k2 k3
  show _=dc b r
  unfold Utf8.decode dc Utf8.runeError
  simp only[Nat.add_zero,←g0,←g1,←g2,←g3]
  have t1:r.tail=r.drop 1:=by cases r <;> rfl
  have t2:r.tail.tail=r.drop 2:=by cases r with|nil=>rfl|cons a r=>cases r <;> rfl
  rw[t2,t1,k1,k2,k3]
  simp only[←g1,←g2,←g3]
theorem zqk(s:ByteArray):∀(f i:Nat),s.size-i≤f→rst s i=unL f ((btN s).drop i)
 | 0,i,h=>by rw[z68 (by omega)];rfl
 | f+1,i,h=>by
  by_cases hi:i<s.size
  ·have hw:=zcv s i hi
   have hd:=zgj s i hi
   have hl:=z6v s
   have e:(btN s).drop i=(btN s)[i]'(by omega)::(btN s).drop (i+1):=List.drop_eq_getElem_cons (by omega)
   rw[z9y hi,zqk s f _ (by omega),e,unL,←e,←hd,List.drop_drop]
  ·rw[z68 (by omega),List.drop_eq_nil_of_le (by rw[z6v];omega),zs2]
def y0w(l:List Nat):ByteArray:=⟨(l.map UInt8.ofNat).toArray⟩
theorem ztw{l:List Nat}(h:∀x∈l,x<256):btN (y0w l)=l:=by
 rw[btN,y0w]
 simp only[List.map_map]
 conv=>rhs;rw[←List.map_id l]
 refine List.map_congr_left fun x hx=>?_
 show(UInt8.ofNat x).toNat=x
 rw[UInt8.toNat_ofNat']
 exact Nat.mod_eq_of_lt (h x hx)
theorem zmy(s:ByteArray):y0w (btN s)=s:=by
 have:(btN s).map UInt8.ofNat=s.data.toList:=by
  rw[btN,List.map_map]
  conv=>rhs;rw[←List.map_id s.data.toList]
  exact List.map_congr_left fun x hx=>by simp
 rw[y0w,this]
theorem y20(s:ByteArray):∀x∈btN s,x<256:=fun x hx=>by
 rw[btN,List.mem_map]at hx
 obtain⟨b,_,rfl⟩:=hx
 exact b.toNat_lt
theorem zye{a b:ByteArray}(h:btN a=btN b):a=b:=by rw[←zmy a,h,zmy]
theorem y34:∀(f:Nat) (l:List Nat),l.length≤f→(∀x∈l,x<256)→∀x∈fd l,x<256
 | f,[],_,_,x,h=>by simp[fd,fdL]at h
 | 0,b::r,h,_,_,_=>by simp at h
 | f+1,b::r,h,hl,x,hx=>by
  have hw:=zxk (l:=b::r) (by simp)
  have hlen:(b::r).length=r.length+1:=rfl
  rw[zkp (by simp),zAt]at hx
  rcases hx with hx|hx
  ·rw[pcL]at hx
   split at hx
   ·exact hl x (List.mem_of_mem_take hx)
   ·rename_i hne
    rcases zc8 (dcL (b::r)).1 with e2|e2|e2
    ·exact absurd e2 hne
    ·rw[ec2,zAz (by omega)]at hx;simp at hx;omega
    ·rw[ec2,zAy (by omega)]at hx;simp at hx;omega
  ·exact y34 f _ (by rw[List.length_drop];omega) (fun y hy=>hl y (List.mem_of_mem_drop hy)) x hx
def za4(s:ByteArray):ByteArray:=y0w (fd (btN s))
theorem zur(s:ByteArray):btN (za4 s)=fd (btN s):=ztw (y34 _ _ (zAj _) (y20 s))
end Go.Rx
namespace Go.Rx
open Go
theorem z3r{c:Int}:Utf8.valid c=true↔(0≤c∧c<55296)∨(57344≤c∧c≤1114111):=by
 unfold Utf8.valid
 rw[zAu,zA7,zA7,zA3,zA3,zA3,zA3]
theorem zes(s:ByteArray)(i:Nat)(h:i<s.size):Utf8.valid (((Utf8.decode s i).1:Nat):Int)=true:=by
 rw[zgj s i h]
 cases hl:(btN s).drop i with
 | nil=>exact z3r.2 (by simp[dcL])
 | cons b r =>
  show Utf8.valid (((dc b r).1:Nat):Int)=true
  unfold dc
  repeat' split
  all_goals first
   | (rename_i h2;rw[zA7]at h2;exact h2.2)
   | (rw[z3r];simp only;omega)
theorem z3m(x:Nat)(h:x<256):(UInt8.ofNat x).toNat=x:=by rw[UInt8.toNat_ofNat'];exact Nat.mod_eq_of_lt h
def ecL(c:Nat):List Nat:=if c<128 then [c]else if c<2048 then [192+c / 64,128+c % 64]else if c<65536 then [224+c / 4096,128+c / 64 % 64,128+c % 64]else [240+c / 262144,128+c / 4096 % 64,128+c / 64 % 64,128+c % 64]
def zhq(c:Int):Nat:=if Utf8.valid c=true then c.toNat else 65533
theorem zc3(c:Int):Utf8.valid ((zhq c:Nat):Int)=true:=by
 unfold zhq
 split
 ·rename_i h
  have:=z3r.1 h
  rw[z3r];omega
 ·rw[z3r];omega
theorem zbw{c:Int}(h:Utf8.valid c=true):((zhq c:Nat):Int)=c:=by
 have:=z3r.1 h
 rw[zhq,zAz h];omega
theorem za3(c:Int):btN (Utf8.encode c)=ecL (zhq c):=by
 have hv:=z3r.1 (zc3 c)
 have e:(if Utf8.valid c=true then c.toNat else Utf8.runeError)=zhq c:=rfl
 unfold Utf8.encode
 simp only[e]
 obtain⟨k,hk⟩:∃k,zhq c=k:=⟨_,rfl⟩
 rw[hk]at hv⊢
 unfold ecL btN
 by_cases h1:k<128
 ·rw[zAz h1,zAz h1]
  simp only[List.map_cons,List.map_nil]
  rw[z3m _ (by omega)]
 rw[zAy h1,zAy h1]
 by_cases h2:k<2048
 ·rw[zAz h2,zAz h2]
  simp only[List.map_cons,List.map_nil]
  rw[z3m _ (by omega),z3m _ (by omega)]
 rw[zAy h2,zAy h2]
 by_cases h3:k<65536
 ·rw[zAz h3,zAz h3]
  simp only[List.map_cons,List.map_nil]
  rw[z3m _ (by omega),z3m _ (by omega),z3m _ (by omega)]
 rw[zAy h3,zAy h3]
 simp only[List.map_cons,List.map_nil]
 rw[z3m _ (by omega),z3m _ (by omega),z3m _ (by omega),z3m _ (by omega)]
theorem zx4{k:Nat}(hv:Utf8.valid (k:Int)=true)(q:List Nat):dcL (ecL k++q)=(k,(ecL k).length):=by
 have hv':=z3r.1 hv
 unfold ecL
 by_cases h1:k<128
 ·rw[zAz h1]
  show dc k _=_
  unfold dc;rw[zAz h1];rfl
 rw[zAy h1]
 by_cases h2:k<2048
 ·rw[zAz h2]
  show dc (192+k / 64) ((128+k % 64)::q)=_
  unfold dc
  rw[zAy (by omega),zAz (by rw[zA7,beq_iff_eq];refine⟨by omega,?_⟩;simp only[c1,beq_iff_eq];omega),List.getD_cons_zero,zAz (by omega)]
  exact Prod.ext (by simp only;omega) rfl
 rw[zAy h2]
 by_cases h3:k<65536
 ·rw[zAz h3]
  show dc (224+k / 4096) ((128+k / 64 % 64)::(128+k % 64)::q)=_
  have e:(224+k / 4096) % 16*4096+(128+k / 64 % 64) % 64*64+(128+k % 64) % 64=k:=by omega
  unfold dc
  rw[zAy (by omega),zAy (by rw[zA7,beq_iff_eq];omega),zAz (by
   simp only[List.tail_cons,c1,zA7,beq_iff_eq];omega)]
  exact zD98
 rw[zAy h3]
 show dc (240+k / 262144) ((128+k / 4096 % 64)::(128+k / 64 % 64)::(128+k % 64)::q)=_
 have e:(240+k / 262144) % 8*262144+(128+k / 4096 % 64) % 64*4096+(128+k / 64 % 64) % 64*64+(128+k % 64) % 64=k:=by omega
 unfold dc
 rw[zAy (by omega),zAy (by rw[zA7,beq_iff_eq];omega),zAy (by simp only[zA7,beq_iff_eq];omega),zAz (by
    simp only[List.tail_cons,c1,zA7,beq_iff_eq];omega)]
 exact zD98
theorem zwk(k:Nat):ecL k≠[]:=by unfold ecL;repeat' split
                                all_goals simp
theorem zb3{k:Nat}(h:k<2048):ecL k=ec2 k:=by
 unfold ecL ec2
 by_cases h1:k<128
 ·rw[zAz h1,zAz h1]
 ·rw[zAy h1,zAy h1,zAz h]
theorem zkl(c:Int):rst (Utf8.encode c) 0=[⟨((zhq c:Nat):Int),(Utf8.encode c).size⟩]:=by
 have hl:=z6v (Utf8.encode c)
 have hd:=zx4 (zc3 c) []
 rw[za3]at hl
 rw[List.append_nil]at hd
 have hne:=zwk (zhq c)
 rw[zqk _ (Utf8.encode c).size 0 (by omega),List.drop_zero,za3]
 cases h:ecL (zhq c)with
 | nil=>exact absurd h hne
 | cons b r =>
  rw[h]at hl hd
  rw[←hl,zAk,unL,hd]
  simp only
  rw[zAk,List.drop_succ_cons,zAs,zs2]
theorem z8t{c:Int}(h:Utf8.valid c=true):Utf8.valid (z65 c)=true:=by
 rw[z3r]at h⊢
 rcases z81 c with e|⟨h1,h2,h3⟩|⟨h1,h2,h3,h4,h5⟩ <;> omega
theorem zli(c:Int):za4 (Utf8.encode c)=Utf8.encode (z65 ((zhq c:Nat):Int)):=by
 have hv:=zc3 c
 have hvl:=z8t hv
 obtain⟨k,hk⟩:∃k,zhq c=k:=⟨_,rfl⟩
 refine zye ?_
 rw[zur,za3,za3]
 rw[hk]at hv hvl⊢
 have hf:zhq (z65 (k:Int))=zez k:=by
  have:=zbw hvl
  have:=zh2 k
  omega
 rw[hf]
 have hd:=zx4 hv []
 rw[List.append_nil]at hd
 rw[zkp (zwk k),pcL,hd]
 simp only
 rw[zAs,List.take_length,show fd []=[]from rfl,List.append_nil]
 by_cases h:zez k=k
 ·rw[zAz h,h]
 ·rw[zAy h]
  rcases zc8 k with e|e|e
  ·exact absurd e h
  ·rw[zb3 (by omega)]
  ·rw[zb3 (by omega)]
theorem z7p{c:Int}(h:Utf8.valid c=true):za4 (Utf8.encode c)=Utf8.encode (z65 c):=by rw[zli,zbw h]
def zgk(c:Int):List Int:=[z65 c,z65 c-32,z65 c-80].filter fun v=>decide (0≤v)&&decide (za4 (Utf8.encode v)=za4 (Utf8.encode c))
theorem zus{c:Int}(h:0≤c):c∈zgk c:=by
 rw[zgk,List.mem_filter]
 refine⟨?_,by simp[h]⟩
 rcases z81 c with e|⟨h1,h2,h3⟩|⟨h1,h2,h3,h4,h5⟩
 ·rw[e];simp
 ·rw[h3];simp
 ·rcases h5 with h5|h5 <;> rw[h5] <;> simp
def inR(l:List (Int × Int))(c:Int):Bool:=l.any fun r=>decide (r.1≤c)&&decide (c≤r.2)
def okV(vs:Int→List Int)(c:Int)(l:List (Int × Int)):Bool:=(vs c).any (inR l)
def y3j(u:U):Bool:=!decide (u.r=65533)||decide (u.n=3)
def zwl(s:ByteArray):Bool:=(rst s 0).all y3j
def zah(s:ByteArray):List Int:=(rst s 0).map (·.r)
def mtS(vs:Int→List Int)(e:Rx)(s:ByteArray):Bool:=decide (val e=0)&&zwl s&&mt (okV vs) e (zah s)
theorem zkz(s:ByteArray):∀(f i:Nat),s.size-i≤f→∀u∈rst s i,Utf8.valid u.r=true
 | 0,i,h,u,hu=>by rw[z68 (by omega)]at hu;simp at hu
 | f+1,i,h,u,hu=>by
  by_cases hi:i<s.size
  ·have hw:=zcv s i hi
   rw[z9y hi,zAc]at hu
   rcases hu with rfl|hu
   ·exact zes s i hi
   ·exact zkz s f _ (by omega) u hu
  ·rw[z68 (by omega)]at hu;simp at hu
theorem zbr{e:Rx}(h:val e=0):vns e=true:=by
 rw[val]at h
 split at h
 ·simp at h
 split at h
 ·simp at h
 ·rename_i h2;simpa using h2
end Go.Rx
namespace Go.Rx
mutual
def y46(Q:List (Int × Int)→Prop):Rx→Prop|.mk _ _ _ rs ks=>Q rs∧zku Q ks
def zku(Q:List (Int × Int)→Prop):List Rx→Prop|[]=>True|k::ks=>y46 Q k∧zku Q ks
end
theorem zwr{Q:List (Int × Int)→Prop}{b:Tb→Tb × Pt}(hb:∀t,(∀l∈t.lv,Q l)→∀l∈(b t).1.lv,Q l)(pl:Bool):∀(n:Nat) (t:Tb) (p:Pt),(∀l∈t.lv,Q l)→∀l∈(rpl b pl n t p).1.lv,Q l
 | 0,t,p,h=>h
 | n+1,t,p,h=>by
  rw[rpl]
  split
  ·exact hb t h
  ·refine zwr hb pl n _ _ ?_
   show ∀l∈(if(pl&&decide (n=0))=true then link (b t).1 (b t).2.l (b t).2.f else(b t).1).lv,Q l
   split
   ·exact hb t h
   ·exact hb t h
theorem zx1{Q:List (Int × Int)→Prop}{b:Tb→Tb × Pt}(hb:∀t,(∀l∈t.lv,Q l)→∀l∈(b t).1.lv,Q l):∀(n:Nat) (t:Tb),(∀l∈t.lv,Q l)→∀l∈(opt b n t).1.lv,Q l
 | 0,t,h=>h
 | n+1,t,h=>by
  rw[opt]
  split
  ·exact hb t h
  ·exact zx1 hb n _ (hb t h)
theorem y54{Q:List (Int × Int)→Prop}{b:Tb→Tb × Pt}(hb:∀t,(∀l∈t.lv,Q l)→∀l∈(b t).1.lv,Q l)(mn mx:Int)(t:Tb)(h:∀l∈t.lv,Q l):∀l∈(rp b mn mx t).1.lv,Q l:=by
 have hr:=zwr hb (decide (mx<0)) mn.toNat t ptE h
 rw[rp]
 split
 ·exact hr
 split
 ·exact hb _ hr
 split
 ·exact zx1 hb _ _ hr
 ·exact hr
theorem y5i{Q:List (Int × Int)→Prop}:(∀e:Rx,y46 Q e→∀t,(∀l∈t.lv,Q l)→∀l∈(bd e t).1.lv,Q l)∧∀ks:List Rx,zku Q ks →
 (∀t p,(∀l∈t.lv,Q l)→∀l∈(bdC ks t p).1.lv,Q l)∧(∀t p,(∀l∈t.lv,Q l)→∀l∈(bdU ks t p).1.lv,Q l)∧(∀t,(∀l∈t.lv,Q l)→∀l∈(bd1 ks t).1.lv,Q l):=by
 refine Rx.ind (fun op mn mx rs ks ih h t ht=>?_) (fun _=>⟨fun t p h=>h,fun t p h=>h,fun t h=>h⟩) fun k ks hk ih h=>?_
 ·rw[y46]at h
  obtain⟨i1,i2,i3⟩:=ih h.2
  rw[bd]
  split
  ·intro l hl
   simp only[zAt,zAq]at hl
   rcases hl with hl|rfl
   ·exact ht l hl
   ·exact h.1
  split
  ·exact i1 t _ ht
  split
  ·exact i2 t _ ht
  ·exact y54 i3 mn mx t ht
 ·rw[zku]at h
  obtain⟨i1,i2,i3⟩:=ih h.2
  refine⟨fun t p ht=>?_,fun t p ht=>?_,fun t ht=>?_⟩
  ·rw[bdC];exact i1 _ _ (hk h.1 t ht)
  ·rw[bdU];exact i2 _ _ (hk h.1 t ht)
  ·rw[bd1];exact hk h.1 t ht
def rdV(N:Nat)(lv:List (List (Int × Int))):List Int→Nat→Nat
 | [],a=>a
 | v::r,a=>rdV N lv r (rdF (fun c l=>inR l c) v N 0 a lv)
theorem zp0(N:Nat)(lv:List (List (Int × Int))):∀(vs:List Int) (a j:Nat),bit (rdV N lv vs a) j↔bit a j∨∃k,k<lv.length∧j=0+k∧bit N j∧vs.any (inR (lv.getD k []))=true
 | [],a,j=>by simp[rdV]
 | v::r,a,j=>by
  rw[rdV,zp0 N lv r,zec]
  constructor
  ·rintro((h|⟨k,h1,h2,h3,h4⟩)|⟨k,h1,h2,h3,h4⟩)
   ·exact .inl h
   ·exact .inr ⟨k,h1,h2,h3,by rw[List.any_cons,h4,Bool.true_or]⟩
   ·exact .inr ⟨k,h1,h2,h3,by rw[List.any_cons,h4,Bool.or_true]⟩
  ·rintro(h|⟨k,h1,h2,h3,h4⟩)
   ·exact .inl (.inl h)
   ·rw[List.any_cons,zAu]at h4
    rcases h4 with h4|h4
    ·exact .inl (.inr ⟨k,h1,h2,h3,h4⟩)
    ·exact .inr ⟨k,h1,h2,h3,h4⟩
theorem y3t(vs:Int→List Int)(c:Int)(N:Nat)(lv:List (List (Int × Int))):rdV N lv (vs c) 0=rdF (okV vs) c N 0 0 lv :=
 Nat.eq_of_testBit_eq fun j=>by
  have h1:=zp0 N lv (vs c) 0 j
  have h2:=zec (okV vs) c N lv 0 0 j
  rw[Bool.eq_iff_iff]
  exact h1.trans h2.symm
theorem y1l(ok:Int→List (Int × Int)→Bool)(c:Int)(N:Nat){lv:List (List (Int × Int))}(hl:lv.length≤64){a:Nat}(ha:a<2 ^ 64):rdF ok c N 0 a lv<2 ^ 64:=by
 refine y4f (zAj 64) fun j hj=>?_
 rcases(zec ok c N lv 0 a j).1 hj with h|⟨k,h1,h2,_⟩
 ·false_or_by_contra
  rename_i hlt
  have h3:a<2 ^ j:=zAx ha (Nat.pow_le_pow_right (by omega) (by omega))
  have:=Nat.testBit_lt_two_pow h3
  rw[bit,this]at h;cases h
 ·omega
theorem zsv(ok:Int→List (Int × Int)→Bool)(c:Int)(N:Nat){lv:List (List (Int × Int))}{k:Nat}{l:List (Int × Int)}(hl:lv[k]? =some l)(a:Nat) :
 rdF ok c N k a (lv.drop k)=rdF ok c N (k+1) (if N.testBit k=true∧ok c l=true then a ||| 2 ^ k else a) (lv.drop (k+1)):=by
 obtain⟨h1,h2⟩:=zA1.1 hl
 rw[List.drop_eq_getElem_cons h1,h2,rdF]
end Go.Rx
namespace Go.Rx
open Go
def pcS(s:ByteArray)(r i n:Int):ByteArray:=if z65 r=r then s.extract i.toNat (i+n).toNat else Utf8.encode (z65 r)
theorem zdw(s:ByteArray)(a b:Nat):btN (s.extract a b)=((btN s).drop a).take (b-a):=by
 rw[btN,btN,ByteArray.data_extract,Array.toList_extract,List.extract_eq_take_drop,List.map_take,List.map_drop]
theorem zy0(s:ByteArray)(i:Nat)(h:i<s.size):btN (pcS s ((Utf8.decode s i).1:Nat) (i:Nat) ((Utf8.decode s i).2:Nat))=pcL ((btN s).drop i):=by
 have hd:=zgj s i h
 have hv:=zes s i h
 rw[pcS,pcL,←hd]
 obtain⟨c,hc⟩:∃c,(Utf8.decode s i).1=c:=⟨_,rfl⟩
 obtain⟨w,hw⟩:∃w,(Utf8.decode s i).2=w:=⟨_,rfl⟩
 rw[hc,hw]
 rw[hc]at hv
 have hn:=zh2 c
 by_cases hl:z65 (c:Int)=c
 ·rw[zAz hl,zAz (by omega),zdw,zA9,show(((i:Nat):Int)+((w:Nat):Int)).toNat-i=w by omega]
 ·rw[zAy hl,zAy (by omega),za3]
  have hf:=zbw (z8t hv)
  have:zhq (z65 (c:Int))=zez c:=by omega
  rw[this]
  rcases zc8 c with e|e|e
  ·omega
  ·exact zb3 (by omega)
  ·exact zb3 (by omega)
theorem zme(s:ByteArray)(r i n:Int)(h0:0≤i)(h1:1≤n)(h2:i+n≤s.size):((pcS s r i n).size:Int)≤4*n:=by
 rw[pcS]
 split
 ·have:=z6v (s.extract i.toNat (i+n).toNat)
  rw[zdw,zAm,List.length_drop,z6v]at this
  omega
 ·have:=z6v (Utf8.encode (z65 r))
  rw[za3]at this
  have h4:(ecL (zhq (z65 r))).length≤4:=by
   unfold ecL
   repeat' split
   all_goals simp
  omega
end Go.Rx
