/- A part. -/
import Derived.Test.YtmcggompdmngmaaGreatDoorXi
set_option linter.all false
namespace Go.Lx
open Go Go.Rx Go.Ax
theorem zj5:∀x:List Nat,lsN x x=false
 | []=>rfl
 | a::x=>by rw[lsN,zj5 x,zAo (Nat.lt_irrefl a)];simp
theorem za4:∀ {x y z:List Nat},lsN x y=true→lsN y z=true→lsN x z=true
 | [],[],_,h,_=>by simp[lsN]at h
 | _::_,[],_,h,_=>by simp[lsN]at h
 | [],b::y,[],_,h=>by simp[lsN]at h
 | [],b::y,c::z,_,_=>rfl
 | a::x,b::y,[],_,h=>by simp[lsN]at h
 | a::x,b::y,c::z,h,g=>by
  rw[lsN,zAu,zA7,zA3,zA3]at h g⊢
  rcases h with h|⟨rfl,h⟩
  ·rcases g with g|⟨rfl,g⟩
   ·exact .inl (by omega)
   ·exact .inl h
  ·rcases g with g|⟨rfl,g⟩
   ·exact .inl g
   ·exact .inr ⟨rfl,za4 h g⟩
theorem y20:∀x y:List Nat,lsN x y=true∨x=y∨lsN y x=true
 | [],[]=>.inr (.inl rfl)
 | [],_::_=>.inl rfl
 | _::_,[]=>.inr (.inr rfl)
 | a::x,b::y=>by
  simp only[lsN,zAu,zA7,zA3]
  rcases Nat.lt_trichotomy a b with h|rfl|h
  ·exact .inl (.inl h)
  ·rcases y20 x y with h|rfl|h
   ·exact .inl (.inr ⟨rfl,h⟩)
   ·exact .inr (.inl rfl)
   ·exact .inr (.inr (.inr ⟨rfl,h⟩))
  ·exact .inr (.inr (.inl h))
theorem y4k{x y:List Nat}(h:lsN x y=true):lsN y x=false:=by
 cases e:lsN y x with
 | false=>rfl
 | true=>have:=za4 h e;rw[zj5]at this;cases this
theorem y26:∀(p x:List Nat),lsN (p++x) p=false
 | [],x=>by cases x <;> rfl
 | a::p,x=>by rw[List.cons_append,lsN,y26 p x,zAo (Nat.lt_irrefl a)];simp
theorem y34:∀ {p w x:List Nat},lsN w p=false→lsN w (p++x)=true∨w=p++x→p <+: w
 | [],w,x,_,_=>List.nil_prefix
 | a::p,[],x,h,_=>by simp[lsN]at h
 | a::p,b::w,x,h,g=>by
  simp only[lsN,Bool.or_eq_false_iff,Bool.and_eq_false_iff,zA5]at h
  rcases g with g|g
  ·simp only[List.cons_append,lsN,zAu,zA7,zA3]at g
   rcases g with g|⟨rfl,g⟩
   ·exact absurd g h.1
   ·have h2:lsN w p=false:=by
     rcases h.2 with h2|h2
     ·exact absurd rfl h2
     ·exact h2
    exact List.cons_prefix_cons.2 ⟨rfl,y34 h2 (.inl g)⟩
  ·rw[List.cons_append]at g
   cases g
   exact List.cons_prefix_cons.2 ⟨rfl,List.prefix_append _ _⟩
def ltS(a b:ByteArray):Bool:=lsN (btN a) (btN b)
theorem zdx(a b:ByteArray):Op.bytesLess a.toList b.toList=ltS a b:=by
 rw[y1f,ByteArray.toList_eq,ByteArray.toList_eq];rfl
theorem zvb(a b:ByteArray):ltS a b=true∨a=b∨ltS b a=true:=by
 rcases y20 (btN a) (btN b)with h|h|h
 ·exact .inl h
 ·exact .inr (.inl (zgb h))
 ·exact .inr (.inr h)
abbrev zc8(l:List ByteArray):Prop:=l.Pairwise fun a b=>ltS a b=true
theorem zou:∀ {l m:List ByteArray},zc8 l→zc8 m→(∀x,x∈l↔x∈m)→l=m
 | [],[],_,_,_=>rfl
 | [],y::m,_,_,h=>absurd ((h y).2 (by simp)) (by simp)
 | x::l,[],_,_,h=>absurd ((h x).1 (by simp)) (by simp)
 | x::l,y::m,hl,hm,h=>by
  obtain⟨h1,h2⟩:=List.pairwise_cons.1 hl
  obtain⟨g1,g2⟩:=List.pairwise_cons.1 hm
  have e:x=y:=by
   rcases zAc.1 ((h x).1 (by simp))with e|e
   ·exact e
   ·rcases zAc.1 ((h y).2 (by simp))with e2|e2
    ·exact e2.symm
    ·have a1:=g1 x e
     have a2:=h1 y e2
     rw[ltS]at a1 a2
     rw[y4k a1]at a2;cases a2
  subst e
  have hn:∀ {k:List ByteArray},(∀a∈k,ltS x a=true)→x∉k:=fun hk hx=>by
   have:=hk x hx
   rw[ltS,zj5]at this;cases this
  rw[zou h2 g2 fun z=>⟨fun hz=>by
   rcases zAc.1 ((h z).1 (List.mem_cons_of_mem _ hz))with rfl|e
   ·exact absurd hz (hn h1)
   ·exact e,fun hz=>by
   rcases zAc.1 ((h z).2 (List.mem_cons_of_mem _ hz))with rfl|e
   ·exact absurd hz (hn g1)
   ·exact e⟩]
def zpm(w:ByteArray):List ByteArray→List ByteArray
 | []=>[w]
 | x::l=>if ltS x w=true then x::zpm w l else if x=w then x::l else w::x::l
theorem z9i(w:ByteArray):∀(l:List ByteArray) (z:ByteArray),z∈zpm w l↔z=w∨z∈l
 | [],z=>by simp[zpm]
 | x::l,z=>by
  rw[zpm]
  split
  ·rw[zAc,z9i w l z,zAc]
   constructor
   ·exact zD120
   ·exact zD120
  ·split
   ·rename_i h;subst h
    constructor
    ·exact .inr
    ·rintro(h|h)
     ·rw[h];simp
     ·exact h
   ·rw[zAc]
theorem z9k(w:ByteArray):∀ {l:List ByteArray},zc8 l→zc8 (zpm w l)
 | [],_=>by simp[zpm,zc8]
 | x::l,h=>by
  obtain⟨h1,h2⟩:=List.pairwise_cons.1 h
  rw[zpm]
  split
  ·rename_i hx
   refine List.pairwise_cons.2 ⟨fun z hz=>?_,z9k w h2⟩
   rcases(z9i w l z).1 hz with rfl|hz
   ·exact hx
   ·exact h1 z hz
  ·split
   ·exact h
   ·rename_i hx hne
    have hw:ltS w x=true:=by
     rcases zvb x w with g|g|g
     ·exact absurd g hx
     ·exact absurd g hne
     ·exact g
    refine List.pairwise_cons.2 ⟨fun z hz=>?_,h⟩
    rcases zAc.1 hz with rfl|hz
    ·exact hw
    ·exact za4 hw (h1 z hz)
def wds(v:List ByteArray):List ByteArray:=v.foldl (fun l w=>zpm w l) []
theorem zgn:∀(v l:List ByteArray),zc8 l→zc8 (v.foldl (fun l w=>zpm w l) l)∧∀z,z∈v.foldl (fun l w=>zpm w l) l↔z∈l∨z∈v
 | [],l,h=>⟨h,fun z=>by simp⟩
 | w::v,l,h=>by
  obtain⟨h1,h2⟩:=zgn v (zpm w l) (z9k w h)
  refine⟨h1,fun z=>?_⟩
  rw[List.foldl_cons,h2 z,z9i,zAc]
  constructor
  ·rintro((h|h)|h)
   ·exact .inr (.inl h)
   ·exact .inl h
   ·exact .inr (.inr h)
  ·rintro(h|h|h)
   ·exact .inl (.inr h)
   ·exact .inl (.inl h)
   ·exact .inr h
theorem zax(v:List ByteArray):zc8 (wds v):=(zgn v [] List.Pairwise.nil).1
theorem z9c(v:List ByteArray)(z:ByteArray):z∈wds v↔z∈v:=by
 rw[wds,(zgn v [] List.Pairwise.nil).2 z];simp
theorem y9c{v l:List ByteArray}(h:zc8 l)(hm:∀z,z∈l↔z∈v):l=wds v:=zou h (zax v) fun z=>by rw[hm,z9c]
def zgp(p w:ByteArray):Bool:=(btN p).isPrefixOf (btN w)
theorem za3{p w:ByteArray}:zgp p w=true↔btN p <+: btN w:=List.isPrefixOf_iff_prefix
theorem y6r{p a b:ByteArray}(h1:ltS a p=false)(h2:ltS a b=true∨a=b)(hb:zgp p b=true):zgp p a=true:=by
 obtain⟨x,hx⟩:=za3.1 hb
 refine za3.2 (y34 (x:=x) h1 ?_)
 rcases h2 with h|h
 ·left;rw[hx];exact h
 ·right;rw[hx,h]
theorem y9m{p w:ByteArray}(h:zgp p w=true):ltS w p=false:=by
 obtain⟨x,hx⟩:=za3.1 h
 rw[ltS,←hx];exact y26 _ _
def zig(f:Nat→Bool):Nat→Nat
 | 0=>0
 | n+1=>if f (zig f n)=true∧zig f n<n then zig f n else if f n=true then n else n+1
theorem z42(f:Nat→Bool):∀n,zig f n≤n∧(∀i,i<zig f n→f i=false)∧(zig f n<n→f (zig f n)=true)
 | 0=>⟨zAj _,fun i h=>absurd h (Nat.not_lt_zero _),fun h=>absurd h (Nat.not_lt_zero _)⟩
 | n+1=>by
  obtain⟨h1,h2,h3⟩:=z42 f n
  rw[zig]
  by_cases hlt:zig f n<n
  ·rw[zAz ⟨h3 hlt,hlt⟩]
   exact⟨by omega,h2,fun _=>h3 hlt⟩
  ·rw[zAy fun h=>hlt h.2]
   have e:zig f n=n:=by omega
   rw[e]at h2
   by_cases hn:f n=true
   ·rw[zAz hn]
    exact⟨by omega,h2,fun _=>hn⟩
   ·rw[zAy hn]
    refine⟨zAj _,fun i hi=>?_,fun h=>absurd h (Nat.lt_irrefl _)⟩
    by_cases g:i=n
    ·subst g;simpa using hn
    ·exact h2 i (by omega)
theorem zlx{f:Nat→Bool}{n k:Nat}(hk:k≤n)(h1:∀i,i<k→f i=false)(h2:k<n→f k=true):zig f n=k:=by
 obtain⟨g1,g2,g3⟩:=z42 f n
 rcases Nat.lt_trichotomy (zig f n) k with h|h|h
 ·have a:=g3 (by omega)
  rw[h1 _ h]at a;cases a
 ·exact h
 ·have a:=h2 (by omega)
  rw[g2 _ h]at a;cases a
def wd(W:List ByteArray)(i:Nat):ByteArray:=W.getD i ByteArray.empty
theorem zj6{W:List ByteArray}(h:zc8 W){i j:Nat}(hij:i<j)(hj:j<W.length):ltS (wd W i) (wd W j)=true:=by
 have e1:wd W i=W[i]:=by simp[wd,List.getD,show i<W.length by omega]
 have e2:wd W j=W[j]:=by simp[wd,List.getD,hj]
 rw[e1,e2]
 exact List.pairwise_iff_getElem.1 h i j (by omega) hj hij
def loS(W:List ByteArray)(p:ByteArray):Nat:=zig (fun i=>!ltS (wd W i) p) W.length
def zks(W:List ByteArray)(p:ByteArray):Nat:=zig (fun k=>!zgp p (wd W (loS W p+k))) (W.length-loS W p)
def zw8(W:List ByteArray)(p:ByteArray):Nat × Nat:=if zks W p=0 then(0,0)else(loS W p,loS W p+zks W p)
section
variable{W:List ByteArray}(h:zc8 W)(p:ByteArray)
include h
theorem znx{i:Nat}(hi:i<loS W p):ltS (wd W i) p=true:=by
 have:=(z42 (fun i=>!ltS (wd W i) p) W.length).2.1 i hi
 simpa using this
theorem znv{i:Nat}(hi:loS W p≤i)(hl:i<W.length):ltS (wd W i) p=false:=by
 obtain⟨g1,g2,g3⟩:=z42 (fun i=>!ltS (wd W i) p) W.length
 have h0:ltS (wd W (loS W p)) p=false:=by
  have:(!ltS (wd W (loS W p)) p)=true:=g3 (show loS W p<W.length by omega)
  simpa using this
 rcases Nat.lt_or_ge (loS W p) i with g|g
 ·cases e:ltS (wd W i) p with
  | false=>rfl
  | true =>
   have:=za4 (zj6 h g hl) e
   rw[ltS]at h0
   rw[h0]at this;cases this
 ·rw[show i=loS W p by omega];exact h0
theorem lo_le:loS W p≤W.length:=(z42 _ _).1
theorem zh2{i:Nat}(hl:i<W.length):zgp p (wd W i)=true↔loS W p≤i∧i<loS W p+zks W p:=by
 have hlo:=lo_le h p
 obtain⟨g1,g2,g3⟩:=z42 (fun k=>!zgp p (wd W (loS W p+k))) (W.length-loS W p)
 change zks W p≤_ at g1
 constructor
 ·intro hp
  have hge:loS W p≤i:=by
   rcases Nat.lt_or_ge i (loS W p)with g|g
   ·have:=znx h p g
    rw[y9m hp]at this;cases this
   ·exact g
  refine⟨hge,?_⟩
  rcases Nat.lt_or_ge i (loS W p+zks W p)with g|g
  ·exact g
  ·have hc:zks W p<W.length-loS W p:=by omega
   have hn:=g3 hc
   change (!zgp p (wd W (loS W p+zks W p)))=true at hn
   have:zgp p (wd W (loS W p+zks W p))=true:=by
    refine y6r (znv h p (by omega) (by omega)) ?_ hp
    rcases Nat.lt_or_ge (loS W p+zks W p) i with k|k
    ·exact .inl (zj6 h k hl)
    ·exact .inr (by rw[show loS W p+zks W p=i by omega])
   rw[this]at hn;cases hn
 ·rintro⟨h1,h2⟩
  have:=g2 (i-loS W p) (by show i-loS W p<zks W p;omega)
  rw[show loS W p+(i-loS W p)=i by omega]at this
  simpa using this
theorem zyj{n:Nat}(hn:n<W.length)(hp:zgp p (wd W n)=true):n<(zw8 W p).2∧(zw8 W p).2≤W.length∧∀i,n≤i→i<(zw8 W p).2→zgp p (wd W i)=true:=by
 obtain⟨h1,h2⟩:=(zh2 h p hn).1 hp
 have hc:zks W p≠0:=by omega
 have hle:=(z42 (fun k=>!zgp p (wd W (loS W p+k))) (W.length-loS W p)).1
 change zks W p≤_ at hle
 have hlo:=lo_le h p
 rw[zw8,zAy hc]
 refine⟨h2,by simp only;omega,fun i hi h3=>?_⟩
 simp only at h3
 exact(zh2 h p (by omega)).2 ⟨by omega,h3⟩
end
def z5v(v:List ByteArray)(w:ByteArray):Nat:=v.countP fun x=>decide (x=w)
theorem zcb(v:List ByteArray)(x w:ByteArray):z5v (v++[x]) w=z5v v w+if x=w then 1 else 0:=by
 rw[z5v,z5v,List.countP_append,List.countP_singleton]
 by_cases h:x=w <;> simp[h]
theorem zi9{v:List ByteArray}{w:ByteArray}(h:w∉v):z5v v w=0:=by
 rw[z5v,List.countP_eq_zero]
 intro x hx
 simp only[zA3]
 rintro rfl
 exact h hx
theorem y1q(v:List ByteArray)(w:ByteArray):z5v v w≤v.length:=List.countP_le_length
theorem y05(v:List ByteArray)(x:ByteArray):wds (v++[x])=zpm x (wds v):=by rw[wds,List.foldl_append];rfl
theorem zer{W:List ByteArray}(h:zc8 W):W.Nodup:=by
 refine List.Pairwise.imp (fun {a b} hab=>?_) h
 rintro rfl
 rw[ltS,zj5]at hab;cases hab
theorem z4s{W:List ByteArray}{i:Nat}(h:i<W.length):W[i]? =some (wd W i):=by
 rw[wd,List.getD,zA0 h];rfl
theorem z9t{W:List ByteArray}{i:Nat}(h:i<W.length):wd W i∈W:=zA2 (z4s h)
theorem zt3{W:List ByteArray}(h:zc8 W)(x:ByteArray){k:Nat}(hk:k≤W.length)(h1:∀i,i<k→ltS (wd W i) x=true)(h2:k<W.length→ltS (wd W k) x=false):loS W x=k :=
 zlx hk (fun i hi=>by rw[h1 i hi];rfl) fun hi=>by rw[h2 hi];rfl
theorem ztj{W:List ByteArray}(h:zc8 W){x:ByteArray}(hx:x∈W):loS W x<W.length∧wd W (loS W x)=x:=by
 obtain⟨j,hj⟩:=zAw hx
 have hjl:=(zA1.1 hj).1
 have hw:wd W j=x:=by rw[z4s hjl]at hj;simpa using hj
 have e:loS W x=j:=zt3 h x (by omega) (fun i hi=>by rw[←hw];exact zj6 h hi hjl) fun _=>by rw[hw,ltS,zj5]
 rw[e];exact⟨hjl,hw⟩
theorem y98{W:List ByteArray}(h:zc8 W)(x:ByteArray):zpm x W=if loS W x<W.length∧wd W (loS W x)=x then W else W.take (loS W x)++x::W.drop (loS W x):=by
 split
 ·rename_i g
  refine zou (z9k x h) h fun z=>?_
  rw[z9i]
  exact⟨fun q=>q.elim (fun e=>by rw[e,←g.2];exact z9t g.1) id,.inr⟩
 ·rename_i g
  have hn:x∉W:=fun hx=>g (ztj h hx)
  refine zou (z9k x h) ?_ fun z=>?_
  ·refine List.pairwise_append.2 ⟨h.sublist (List.take_sublist _ _),List.pairwise_cons.2 ⟨fun z hz=>?_,h.sublist (List.drop_sublist _ _)⟩,fun a ha b hb=>?_⟩
   ·obtain⟨j,hj⟩:=zAw hz
    rw[List.getElem?_drop]at hj
    have hjl:=(zA1.1 hj).1
    have hw:wd W (loS W x+j)=z:=by rw[z4s hjl]at hj;simpa using hj
    have:=znv h x (Nat.le_add_right _ j) hjl
    rw[hw]at this
    rcases zvb x z with e|e|e
    ·exact e
    ·subst e;exact absurd (hw▸z9t hjl) hn
    ·rw[this]at e;cases e
   ·obtain⟨i,hi⟩:=zAw ha
    rw[List.getElem?_take]at hi
    split at hi
    ·rename_i hil
     have hl:=(zA1.1 hi).1
     have hw:wd W i=a:=by rw[z4s hl]at hi;simpa using hi
     have hax:ltS a x=true:=by rw[←hw];exact znx h x hil
     rcases zAc.1 hb with rfl|hb
     ·exact hax
     ·obtain⟨j,hj⟩:=zAw hb
      rw[List.getElem?_drop]at hj
      have hjl:=(zA1.1 hj).1
      have hw2:wd W (loS W x+j)=b:=by rw[z4s hjl]at hj;simpa using hj
      rw[←hw,←hw2]
      exact zj6 h (by omega) hjl
    ·cases hi
  ·rw[z9i,zAt,zAc]
   conv=>lhs;rw[←List.take_append_drop (loS W x) W,zAt]
   constructor
   ·exact zD113
   ·exact zD113
theorem zrf{W:List ByteArray}(hn:W.Nodup)(v:List ByteArray){x:ByteArray}{k:Nat}(hk:W[k]? =some x):(W.map (z5v v)).set k (z5v v x+1)=W.map (z5v (v++[x])):=by
 apply List.ext_getElem?
 intro j
 rw[List.getElem?_set,zAd,zAd]
 have hkl:=(zA1.1 hk).1
 split
 ·rename_i e;subst e
  rw[zA4,zAz hkl,hk]
  simp[zcb]
 ·rename_i e
  cases hj:W[j]? with
  | none=>rfl
  | some y =>
   have:x≠y:=by
    rintro rfl
    exact e ((List.getElem?_inj hkl hn).1 (by rw[hk,hj]))
   simp[zcb,this]
theorem y5s(v W:List ByteArray)(x:ByteArray)(k:Nat)(hx:x∉v):(W.map (z5v v)).take k++0::(W.map (z5v v)).drop k=(W.take k++x::W.drop k).map (z5v v):=by
 rw[List.map_append,List.map_cons,zi9 hx,List.map_take,List.map_drop]
instance memB(x:ByteArray)(K:List ByteArray):Decidable (x∈K):=decidable_of_iff ((K.any fun y=>decide (y=x))=true) (by simp)
def zii(K:List ByteArray)(x:ByteArray):List ByteArray:=if x∈K then K else K++[x]
def zm3(v:List ByteArray):List ByteArray:=v.foldl zii []
theorem zv6(v:List ByteArray)(x:ByteArray):zm3 (v++[x])=zii (zm3 v) x:=by rw[zm3,List.foldl_append];rfl
theorem y0r(K:List ByteArray)(x z:ByteArray):z∈zii K x↔z∈K∨z=x:=by
 rw[zii];split
 ·rename_i h;exact⟨.inl,fun q=>q.elim id fun e=>e▸h⟩
 ·simp
theorem zqo{K:List ByteArray}(x:ByteArray)(h:K.Nodup):(zii K x).Nodup:=by
 rw[zii];split
 ·exact h
 ·rename_i g
  refine List.nodup_append.2 ⟨h,by simp,fun a ha b hb=>?_⟩
  simp at hb;subst hb
  rintro rfl;exact g ha
theorem zaa:∀(v K:List ByteArray),K.Nodup→(v.foldl zii K).Nodup∧(∀z,z∈v.foldl zii K↔z∈K∨z∈v)∧(v.foldl zii K).length≤K.length+v.length
 | [],K,h=>⟨h,fun z=>by simp,by simp⟩
 | x::v,K,h=>by
  obtain⟨h1,h2,h3⟩:=zaa v (zii K x) (zqo x h)
  refine⟨h1,fun z=>?_,?_⟩
  ·rw[List.foldl_cons,h2 z,y0r,zAc,or_assoc]
  ·have:(zii K x).length≤K.length+1:=by rw[zii];split <;> simp
   rw[List.foldl_cons,zAk];omega
theorem zaz(v:List ByteArray):(zm3 v).Nodup:=(zaa v [] List.nodup_nil).1
theorem zcc(v:List ByteArray)(z:ByteArray):z∈zm3 v↔z∈v:=by rw[zm3,(zaa v [] List.nodup_nil).2.1 z];simp
theorem zy9(v:List ByteArray):(zm3 v).length≤v.length:=by have:=(zaa v [] List.nodup_nil).2.2;simpa[zm3]using this
theorem zvx(v:List ByteArray):(wds v).length=(zm3 v).length:=by
 have h:(wds v).Perm (zm3 v):=(List.perm_ext_iff_of_nodup (zer (zax v)) (zaz v)).2 fun z=>by rw[z9c,zcc]
 exact h.length_eq
theorem zm2(u v:List Int):txN (u++v)=txN u++txN v:=by rw[txN,txN,txN,List.flatMap_append]
theorem zj1:∀ {u v:List Int},(∀c∈u,y8d c)→(∀c∈v,y8d c)→txN u <+: txN v→u <+: v
 | [],v,_,_,_=>List.nil_prefix
 | a::u,[],hu,_,h=>by
  rw[zcr]at h
  have:=List.prefix_nil.1 h
  exact absurd (List.append_eq_nil_iff.1 this).1 (zmx _)
 | a::u,b::v,hu,hv,h=>by
  rw[zcr,zcr]at h
  obtain⟨x,hx⟩:=h
  have da:=zjn (z5h a) (txN u++x)
  have db:=zjn (z5h b) (txN v)
  rw[zAl]at hx
  rw[hx,db]at da
  have e:zbl b=zbl a:=congrArg Prod.fst da
  have ha:=z81 (zch.1 (hu a (by simp)))
  have hb:=z81 (zch.1 (hv b (by simp)))
  have hab:a=b:=by rw[←ha,←hb,e]
  subst hab
  have:=List.append_cancel_left hx
  exact List.cons_prefix_cons.2 ⟨rfl,zj1 (fun c hc=>hu c (by simp[hc])) (fun c hc=>hv c (by simp[hc])) ⟨x,this⟩⟩
def stL(a:Au)(lv:List Bool)(q c:Int):Int:=if 0≤a.nx q c∧lv.getD (a.nx q c).toNat false=true then a.nx q c else -1
def zn0(a:Au)(lv:List Bool):Int→List Int→Nat→Bool × Nat
 | q,[],_=>(a.fin q,0)
 | q,c::l,at_=>if stL a lv q c<0 then(false,at_+zE c)else zn0 a lv (stL a lv q c) l (at_+zE c)
theorem yaw(c:Int):1≤zE c:=(zwe (zbl c)).1
section
variable{a:Au}{lv:List Bool}(hlv:∀q:Nat,lv.getD q false=false→∀w,a.acc (q:Nat) w=false)
include hlv
theorem y6n{q c:Int}(h:stL a lv q c<0)(w:List Int):a.acc (a.nx q c) w=false:=by
 rw[stL]at h
 by_cases h0:0≤a.nx q c
 ·have hl:lv.getD (a.nx q c).toNat false=false:=by
   cases e:lv.getD (a.nx q c).toNat false with
   | false=>rfl
   | true=>rw[zAz ⟨h0,e⟩]at h;omega
  have:=hlv _ hl w
  rwa [Int.toNat_of_nonneg h0]at this
 ·exact a.acc_neg w (by omega)
theorem yaz{q c:Int}(h:¬stL a lv q c<0):stL a lv q c=a.nx q c:=by
 rw[stL]at h⊢
 split
 ·rfl
 ·rename_i g;rw[zAy g]at h;omega
theorem zda:∀(l:List Int) (q:Int) (n:Nat),((zn0 a lv q l n).2=0→(zn0 a lv q l n).1=a.acc q l)∧(0<(zn0 a lv q l n).2→∃u v,l=u++v∧u≠[]∧(zn0 a lv q l n).2=n+(txN u).length∧∀z,a.acc q (u++z)=false)
 | [],q,n=>⟨fun _=>rfl,fun h=>absurd h (Nat.lt_irrefl _)⟩
 | c::l,q,n=>by
  rw[zn0]
  have hz:=yaw c
  have ez:(txN [c]).length=zE c:=by simp[txN,zE]
  by_cases g:stL a lv q c<0
  ·rw[zAz g]
   refine⟨fun h=>by simp only at h;omega,fun _=>⟨[c],l,rfl,by simp,by rw[ez],fun z=>?_⟩⟩
   exact y6n hlv g z
  ·rw[zAy g]
   obtain⟨h1,h2⟩:=zda l (stL a lv q c) (n+zE c)
   refine⟨fun h=>?_,fun h=>?_⟩
   ·rw[h1 h,Au.acc_cons,yaz hlv g]
   ·obtain⟨u,v,e1,e2,e3,e4⟩:=h2 h
    refine⟨c::u,v,by rw[e1];rfl,by simp,?_,fun z=>?_⟩
    ·rw[e3,show c::u=[c]++u from rfl,zm2,zAa,ez];omega
    ·rw[List.cons_append,Au.acc_cons,←yaz hlv g];exact e4 z
theorem y02{w w':ByteArray}(hw:zcs w=true)(hw':zcs w'=true){d:Nat}(hd:(zn0 a lv 0 (Go.Rx.z30 w) 0).2=d)(h0:0<d)(hp:(btN w).take d <+: btN w'):a.acc 0 (Go.Rx.z30 w')=false:=by
 obtain⟨u,v,e1,_,e3,e4⟩:=(zda hlv (Go.Rx.z30 w) 0 0).2 (by omega)
 rw[hd,Nat.zero_add]at e3
 have k1:btN w=txN (Go.Rx.z30 w):=by conv=>lhs;rw[zct hw,zb5]
 have k2:btN w'=txN (Go.Rx.z30 w'):=by conv=>lhs;rw[zct hw',zb5]
 rw[k1,k2,e1,zm2,e3,List.take_left]at hp
 have hs:=zb4 (s:=w)
 obtain⟨z,hz⟩:=zj1 (fun c hc=>hs c (by rw[e1];simp[hc])) zb4 hp
 rw[←hz];exact e4 z
end
def lvP(a:Au)(lv:List Bool):Int→List Int→Nat→List Nat
 | _,[],_=>[]
 | q,c::l,n=>if stL a lv q c<0 then []else(n+zE c)::lvP a lv (stL a lv q c) l (n+zE c)
section
variable{a:Au}{lv:List Bool}(h1:∀q:Nat,lv.getD q false=false→∀w,a.acc (q:Nat) w=false)(h2:∀q:Nat,lv.getD q false=true→∃w,a.acc (q:Nat) w=true)
include h1 h2
end
def zwl(b w:ByteArray)(e:Nat):Bool:=!(decide (e≤b.size)&&decide ((btN b).take e=(btN w).take e))
def zwo(a:Au)(lv:List Bool):ByteArray→List ByteArray→Nat
 | _,[]=>0
 | b,w::W=>((lvP a lv 0 (Go.Rx.z30 w) 0).filter (zwl b w)).length+zwo a lv w W
theorem ybq{w:ByteArray}(h:zcs w=true):btN w=txN (Go.Rx.z30 w):=by conv=>lhs;rw[zct h,zb5]
def sel(f:Nat→Bool)(n:Nat):List Nat:=(List.range n).filter f
theorem zcw(f:Nat→Bool)(n:Nat):sel f (n+1)=sel f n++if f n=true then [n]else []:=by
 rw[sel,List.range_succ,List.filter_append]
 by_cases h:f n=true <;> simp[sel,h]
theorem zcg{f:Nat→Bool}{n:Nat}:∀ {m:Nat},n≤m→(∀i,n≤i→i<m→f i=false)→sel f m=sel f n
 | 0,h,_=>by rw[show n=0 by omega]
 | m+1,h,hf=>by
  by_cases e:n=m+1
  ·rw[e]
  ·rw[zcw,zAy (by rw[hf m (by omega) (by omega)];decide),List.append_nil]
   exact zcg (by omega) fun i h1 h2=>hf i h1 (by omega)
theorem zli(f:Nat→Bool)(n:Nat):(sel f n).length≤n:=by
 have:=List.length_filter_le f (List.range n)
 simpa[sel]using this
theorem zgs{f:Nat→Bool}{n i:Nat}:i∈sel f n↔i<n∧f i=true:=by simp[sel]
theorem zro{f g:Nat→Bool}{n:Nat}(h:∀i,i<n→f i=g i):sel f n=sel g n:=by
 rw[sel,sel]
 refine List.filter_congr fun i hi=>h i (by simpa using hi)
def zwt:Option Int→Int→Bool
 | none,_=>false
 | some q,k=>decide (k≤q)
section
variable{a:Au}{lv:List Bool}(hlv:∀q:Nat,lv.getD q false=false→∀w,a.acc (q:Nat) w=false)
include hlv
end
abbrev zw2(l:List Int):Prop:=l.Pairwise (· <·)
def z5u(l:List Int)(x:Int):Nat:=zig (fun i=>decide (x≤l.getD i 0)) l.length
theorem zd4{l:List Int}(h:zw2 l){i j:Nat}(hij:i<j)(hj:j<l.length):l.getD i 0<l.getD j 0:=by
 have e1:l.getD i 0=l[i]:=by simp[List.getD,show i<l.length by omega]
 have e2:l.getD j 0=l[j]:=by simp[List.getD,hj]
 rw[e1,e2]
 exact List.pairwise_iff_getElem.1 h i j (by omega) hj hij
theorem zcm(l:List Int)(x:Int):z5u l x≤l.length∧(∀i,i<z5u l x→l.getD i 0<x)∧(z5u l x<l.length→x≤l.getD (z5u l x) 0):=by
 obtain⟨h1,h2,h3⟩:=z42 (fun i=>decide (x≤l.getD i 0)) l.length
 refine⟨h1,fun i hi=>?_,fun h=>of_decide_eq_true (h3 h)⟩
 have:=h2 i hi
 simp only[zA5]at this
 omega
theorem zn6{l:List Int}{i:Nat}(h:i<l.length):l.getD i 0∈l:=by
 have e:l.getD i 0=l[i]:=by simp[List.getD,h]
 rw[e];exact List.getElem_mem _
theorem znj{l:List Int}{x:Int}(h:x∈l):∃i,i<l.length∧l.getD i 0=x:=by
 obtain⟨i,hi,e⟩:=List.getElem_of_mem h
 exact⟨i,hi,by simp[List.getD,hi,e]⟩
theorem y6j{l:List Int}(h:zw2 l)(x:Int):x∈l↔(z5u l x<l.length∧l.getD (z5u l x) 0=x):=by
 obtain⟨g1,g2,g3⟩:=zcm l x
 constructor
 ·intro hx
  obtain⟨i,hi,e⟩:=znj hx
  have hle:z5u l x≤i:=by
   rcases Nat.lt_or_ge i (z5u l x)with k|k
   ·have:=g2 i k;omega
   ·exact k
  have hlt:z5u l x<l.length:=by omega
  have hge:=g3 hlt
  rcases Nat.lt_or_ge (z5u l x) i with k|k
  ·have:=zd4 h k hi;omega
  ·rw[show z5u l x=i by omega];exact⟨hi,e⟩
 ·rintro⟨h1,h2⟩
  rw[←h2];exact zn6 h1
theorem zyd{l:List Int}{x y:Int}(hxy:x≤y):y∈l↔y∈l.drop (z5u l x):=by
 constructor
 ·intro hy
  obtain⟨i,hi,e⟩:=znj hy
  have hle:z5u l x≤i:=by
   rcases Nat.lt_or_ge i (z5u l x)with k|k
   ·have:=(zcm l x).2.1 i k;omega
   ·exact k
  rw[←e]
  have:(l.drop (z5u l x)).getD (i-z5u l x) 0=l.getD i 0:=by
   simp only[List.getD,List.getElem?_drop]
   rw[show z5u l x+(i-z5u l x)=i by omega]
  rw[←this]
  exact zn6 (by rw[List.length_drop];omega)
 ·exact fun h=>List.mem_of_mem_drop h
theorem y0h{l:List Int}(h:zw2 l)(n:Nat):zw2 (l.drop n):=h.sublist (List.drop_sublist _ _)
theorem zi1:∀ {l m:List Int},zw2 l→zw2 m→(∀x,x∈l↔x∈m)→l=m
 | [],[],_,_,_=>rfl
 | [],y::m,_,_,h=>absurd ((h y).2 (by simp)) (by simp)
 | x::l,[],_,_,h=>absurd ((h x).1 (by simp)) (by simp)
 | x::l,y::m,hl,hm,h=>by
  obtain⟨h1,h2⟩:=List.pairwise_cons.1 hl
  obtain⟨g1,g2⟩:=List.pairwise_cons.1 hm
  have e:x=y:=by
   rcases zAc.1 ((h x).1 (by simp))with e|e
   ·exact e
   ·rcases zAc.1 ((h y).2 (by simp))with e2|e2
    ·exact e2.symm
    ·have:=g1 x e;have:=h1 y e2;omega
  subst e
  rw[zi1 h2 g2 fun z=>⟨fun hz=>by
   rcases zAc.1 ((h z).1 (List.mem_cons_of_mem _ hz))with rfl|e
   ·have:=h1 z hz;omega
   ·exact e,fun hz=>by
   rcases zAc.1 ((h z).2 (List.mem_cons_of_mem _ hz))with rfl|e
   ·have:=g1 z hz;omega
   ·exact e⟩]
theorem z6y(f:Nat→Bool):∀n,zw2 ((sel f n).map fun(i:Nat)=>(i:Int))
 | 0=>List.Pairwise.nil
 | n+1=>by
  rw[zcw,List.map_append]
  refine List.pairwise_append.2 ⟨z6y f n,?_,fun a ha b hb=>?_⟩
  ·split <;> simp
  ·split at hb
   ·simp at hb;subst hb
    obtain⟨i,hi,rfl⟩:=List.mem_map.1 ha
    have:=(zgs.1 hi).1;omega
   ·simp at hb
end Go.Lx
namespace Go.Lx
open Go Go.Rx Go.Ax
def mkA(i:Nat)(s:List Bool × Bool)(x:Arc):List Bool × Bool:=if s.1.getD i false=false∧s.1.getD x.2.2.toNat false=true then(s.1.set i true,true)else s
def mkP:Nat→List (List Arc)→List Bool × Bool→List Bool × Bool
 | _,[],s=>s
 | i,l::A,s=>mkP (i+1) A (l.foldl (mkA i) s)
def mkM(A:List (List Arc)):Nat→List Bool→List Bool
 | 0,L=>L
 | n+1,L=>if(mkP 0 A (L,false)).2=true then mkM A n (mkP 0 A (L,false)).1 else(mkP 0 A (L,false)).1
structure MkS(F:List Bool)(A:List (List Arc))(s s':List Bool × Bool):Prop where
 len:s'.1.length=s.1.length
 le:leB s.1 s'.1
 sound:(∀q:Nat,s.1[q]? =some true→z57 F A q)→∀q:Nat,s'.1[q]? =some true→z57 F A q
 flag:s'.2=false→s'=s
 grow:s'.2=true→s.2=true∨s'.1.count false<s.1.count false
 cnt:s'.1.count false≤s.1.count false
variable{F:List Bool}{A:List (List Arc)}
theorem MkS.refl(s:List Bool × Bool):MkS F A s s:=⟨rfl,zh6 _,id,fun _=>rfl,.inl,zAj _⟩
theorem MkS.trans{s s' s'':List Bool × Bool}(h:MkS F A s s')(g:MkS F A s' s''):MkS F A s s'':=by
 refine⟨g.len.trans h.len,zae h.le g.le,fun x=>g.sound (h.sound x),fun x=>?_,fun x=>?_,Nat.le_trans g.cnt h.cnt⟩
 ·have e:=g.flag x
  rw[e]at x⊢
  exact h.flag x
 ·rcases g.grow x with e|e
  ·rcases h.grow e with k|k
   ·exact .inl k
   ·exact .inr (Nat.lt_of_le_of_lt g.cnt k)
  ·exact .inr (zAx e h.cnt)
theorem getD_some{L:List Bool}{i:Nat}(h:i<L.length):L[i]? =some (L.getD i false):=by
 rw[List.getD,zA0 h];rfl
theorem zeu{L:List Bool}{i:Nat}(h:L.getD i false=true):L[i]? =some true:=by
 rcases Nat.lt_or_ge i L.length with g|g
 ·rw[getD_some g,h]
 ·rw[List.getD,zAv g]at h;cases h
theorem y9g{i:Nat}{l:List Arc}{x:Arc}(hl:A[i]? =some l)(hx:x∈l)(s:List Bool × Bool)(hi:i<s.1.length):MkS F A s (mkA i s x):=by
 rw[mkA]
 split
 ·rename_i h
  have hf:s.1[i]? =some false:=by rw[getD_some hi,h.1]
  refine⟨by simp,?_,fun hs q hq=>?_,fun h=>(by cases h),fun _=>.inr ?_,?_⟩
  ·have:=zuc s.1 i true
   rwa [Bool.or_true]at this
  ·by_cases e:i=q
   ·subst e
    exact .arc i l x hl hx (hs _ (zeu h.2))
   ·rw[List.getElem?_set_ne e]at hq;exact hs q hq
  ·have:=count_set hf;simp only;omega
  ·have:=count_set hf;simp only;omega
 ·exact .refl s
theorem zym{i:Nat}{l:List Arc}(hl:A[i]? =some l):∀(m:List Arc) (s:List Bool × Bool),(∀x∈m,x∈l)→i<s.1.length→MkS F A s (m.foldl (mkA i) s)
 | [],s,_,_=>.refl s
 | x::m,s,h,hi=>by
  have h1:=y9g (F:=F) hl (h x (by simp)) s hi
  rw[List.foldl_cons]
  exact h1.trans (zym hl m _ (fun y hy=>h y (by simp[hy])) (by rw[h1.len];exact hi))
theorem y0q:∀(B:List (List Arc)) (i:Nat) (s:List Bool × Bool),(∀(k:Nat) (l:List Arc),B[k]? =some l→A[i+k]? =some l)→i+B.length≤s.1.length→MkS F A s (mkP i B s)
 | [],i,s,_,_=>.refl s
 | l::B,i,s,h,hi=>by
  rw[zAk]at hi
  have h1:=zym (F:=F) (h 0 l rfl) l s (fun _ hx=>hx) (by omega)
  rw[Nat.add_zero]at h1
  rw[mkP]
  exact h1.trans (y0q B (i+1) _ (fun k m hm=>by rw[show i+1+k=i+(k+1) by omega];exact h (k+1) m (by simpa using hm)) (by rw[h1.len];omega))
theorem zfq{F:List Bool}{i:Nat}{l:List Arc}(hl:A[i]? =some l):∀(m:List Arc) (s:List Bool × Bool),(∀x∈m,x∈l)→i<s.1.length→(m.foldl (mkA i) s).2=false→∀x∈m,s.1.getD x.2.2.toNat false=true→s.1.getD i false=true
 | [],s,_,_,_,x,hx,_=>by cases hx
 | x::m,s,h,hi,hf,y,hy,hg=>by
  have h1:=y9g (F:=F) hl (h x (by simp)) s hi
  have h2:=zym (F:=F) hl m (mkA i s x) (fun y hy=>h y (by simp[hy])) (by rw[h1.len];exact hi)
  rw[List.foldl_cons]at hf
  have e2:=h2.flag hf
  have hf1:(mkA i s x).2=false:=by rw[←e2];exact hf
  have e1:=h1.flag hf1
  rcases zAc.1 hy with rfl|hy
  ·cases e:s.1.getD i false with
   | true=>rfl
   | false =>
    rw[mkA,zAz ⟨e,hg⟩]at hf1;cases hf1
  ·rw[e1]at hf
   exact zfq (F:=F) hl m s (fun y hy=>h y (by simp[hy])) hi hf y hy hg
theorem zfw{F:List Bool}:∀(B:List (List Arc)) (i:Nat) (s:List Bool × Bool),(∀(k:Nat) (l:List Arc),B[k]? =some l→A[i+k]? =some l)→i+B.length≤s.1.length→(mkP i B s).2=false→∀(k:Nat) (l:List Arc),B[k]? =some l→∀x∈l,s.1.getD x.2.2.toNat false=true→s.1.getD (i+k) false=true
 | [],i,s,_,_,_,k,l,hk,x,hx,_=>by simp at hk
 | l::B,i,s,h,hi,hf,k,m,hk,x,hx,hg=>by
  rw[zAk]at hi
  have hB:∀(k:Nat) (m:List Arc),B[k]? =some m→A[i+1+k]? =some m:=fun k m hm=>by rw[show i+1+k=i+(k+1) by omega];exact h (k+1) m (by simpa using hm)
  have h1:=zym (F:=F) (h 0 l rfl) l s (fun _ hx=>hx) (by omega)
  rw[Nat.add_zero]at h1
  have hle:i+1+B.length≤(l.foldl (mkA i) s).1.length:=by rw[h1.len];omega
  have h2:=y0q (F:=F) B (i+1) _ hB hle
  rw[mkP]at hf
  have e2:=h2.flag hf
  have hf1:(l.foldl (mkA i) s).2=false:=by rw[←e2];exact hf
  have e1:=h1.flag hf1
  cases k with
  | zero =>
   simp at hk;subst hk
   exact zfq (F:=F) (h 0 l rfl) l s (fun _ hx=>hx) (by omega) hf1 x hx hg
  | succ k =>
   rw[e1]at hf
   have:=zfw (F:=F) B (i+1) s hB (by rw[e1]at hle;exact hle) hf k m (by simpa using hk) x hx hg
   rwa [show i+1+k=i+(k+1) by omega]at this
theorem zp1(hAF:A.length=F.length):∀(n:Nat) (L:List Bool),L.length=F.length→L.count false<n→(∀q:Nat,L[q]? =some true→z57 F A q)→leB F L→mkM A n L=z3m F A
 | 0,L,_,h,_,_=>by omega
 | n+1,L,hl,hc,hs,hle=>by
  have hm:=y0q (F:=F) A 0 (L,false) (fun k l hk=>by rw[Nat.zero_add];exact hk) (by simp only;omega)
  rw[mkM]
  split
  ·rename_i e
   refine zp1 hAF n _ (by rw[hm.len];exact hl) ?_ (hm.sound hs) (zae hle hm.le)
   rcases hm.grow e with g|g
   ·cases g
   ·simp only at g;omega
  ·rename_i e
   have e':(mkP 0 A (L,false)).2=false:=by simpa using e
   have hcl:=zfw (F:=F) A 0 (L,false) (fun k l hk=>by rw[Nat.zero_add];exact hk) (by simp only;omega) e'
   have hst:=hm.flag e'
   rw[hst]
   refine zne hl fun q=>⟨hs q,fun hq=>?_⟩
   induction hq with
   | fin q h1 =>
    have:=y1y hle q (by rw[List.getD,h1];rfl)
    exact zeu this
   | arc q l x h1 h2 h3 ih =>
    have:=hcl q l h1 x h2 (by simp only;rw[List.getD,ih];rfl)
    rw[Nat.zero_add]at this
    exact zeu this
end Go.Lx
namespace Go.Lx
open Go Go.Rx Go.Ax
theorem zl6(w:ByteArray)(e:Nat):btN (w.extract 0 e)=(btN w).take e:=by
 simp[btN,ByteArray.data_extract,List.map_take]
section
variable{a:Au}{lv:List Bool}(h1:∀q:Nat,lv.getD q false=false→∀w,a.acc (q:Nat) w=false)(h2:∀q:Nat,lv.getD q false=true→∃w,a.acc (q:Nat) w=true)
include h1 h2
end
theorem zu7(a:Au)(lv:List Bool):∀(l:List Int) (q:Int) (n:Nat),(lvP a lv q l n).length≤l.length
 | [],_,_=>by simp[lvP]
 | c::l,q,n=>by
  rw[lvP]
  split
  ·simp
  ·have:=zu7 a lv l (stL a lv q c) (n+zE c)
   simp;exact this
theorem zqj(s:ByteArray):(Go.Rx.z30 s).length≤s.size:=by
 have:=zhm s (s.size-0) 0 (zAj _)
 rw[Go.Rx.z30,zA4];omega
theorem zrc{a:Au}{lv:List Bool}:∀ {W:List ByteArray} (b:ByteArray),(∀w∈W,w.size≤1000)→zwo a lv b W≤1000*W.length
 | [],_,_=>by simp[zwo]
 | w::W,b,h=>by
  have ih:=zrc (a:=a) (lv:=lv) (W:=W) w fun x hx=>h x (by simp[hx])
  have h1:=List.length_filter_le (zwl b w) (lvP a lv 0 (Go.Rx.z30 w) 0)
  have h2:=zu7 a lv (Go.Rx.z30 w) 0 0
  have h3:=zqj w
  have h4:=h w (by simp)
  rw[zwo,zAk];omega
theorem zzv{b w:ByteArray}{e:Nat}(h:b.size<e):zwl b w e=true:=by
 rw[zwl,zAo (by omega:¬e≤b.size)];rfl
theorem y4x{b w:ByteArray}{e:Nat}(h:¬b.size<e):zwl b w e=!decide (b.extract 0 e=w.extract 0 e):=by
 rw[zwl,zAi (by omega:e≤b.size),Bool.true_and]
 congr 1
 rw[decide_eq_decide,←zl6,←zl6]
 exact⟨fun g=>zgb g,fun g=>by rw[g]⟩
noncomputable def yb9(W:List ByteArray)(a:Au):Int:=if W.length=0∨(z3m a.F a.A).getD 0 false=false then 0 else((1+zwo a (z3m a.F a.A) ByteArray.empty W:Nat):Int)
def mrg:List Int→List Int→List Int
 | [],b=>b
 | x::a,[]=>x::a
 | x::a,y::b=>if x<y then x::mrg a (y::b)else if y<x then y::mrg (x::a) b else x::mrg a b
termination_by a b=>a.length+b.length
theorem zwd(b:List Int):mrg [] b=b:=by rw[mrg]
theorem zx1:∀a:List Int,mrg a []=a
 | []=>by rw[mrg]
 | x::a=>by rw[mrg]
theorem z8y:∀(n:Nat) (a b:List Int),a.length+b.length≤n→∀z,z∈mrg a b↔z∈a∨z∈b
 | _,[],b,_,z=>by rw[mrg];simp
 | _,x::a,[],_,z=>by rw[mrg];simp
 | 0,x::a,y::b,h,z=>by simp at h
 | n+1,x::a,y::b,h,z=>by
  simp only[zAk]at h
  rw[mrg]
  split
  ·rw[zAc,z8y n a (y::b) (by simp;omega)];simp[or_assoc]
  ·split
   ·rw[zAc,z8y n (x::a) b (by simp;omega)]
    simp only[zAc]
    constructor
    ·rintro(h|(h|h)|h)
     ·exact .inr (.inl h)
     ·exact .inl (.inl h)
     ·exact .inl (.inr h)
     ·exact .inr (.inr h)
    ·rintro((h|h)|h|h)
     ·exact .inr (.inl (.inl h))
     ·exact .inr (.inl (.inr h))
     ·exact .inl h
     ·exact .inr (.inr h)
   ·have e:x=y:=by omega
    subst e
    rw[zAc,z8y n a b (by omega)]
    simp only[zAc]
    constructor
    ·rintro(h|h|h)
     ·exact .inl (.inl h)
     ·exact .inl (.inr h)
     ·exact .inr (.inr h)
    ·rintro((h|h)|h|h)
     ·exact .inl h
     ·exact .inr (.inl h)
     ·exact .inl h
     ·exact .inr (.inr h)
theorem zhw:∀(n:Nat) (a b:List Int),a.length+b.length≤n→(mrg a b).length≤a.length+b.length
 | _,[],b,_=>by rw[mrg];simp
 | _,x::a,[],_=>by rw[mrg];simp
 | 0,x::a,y::b,h=>by simp at h
 | n+1,x::a,y::b,h=>by
  simp only[zAk]at h
  rw[mrg]
  split
  ·have:=zhw n a (y::b) (by simp;omega)
   simp only[zAk]at this⊢;omega
  ·split
   ·have:=zhw n (x::a) b (by simp;omega)
    simp only[zAk]at this⊢;omega
   ·have:=zhw n a b (by omega)
    simp only[zAk]at this⊢;omega
theorem zgu:∀(n:Nat) (a b:List Int),a.length+b.length≤n→zw2 a→zw2 b→zw2 (mrg a b)
 | _,[],b,_,_,hb=>by rw[mrg];exact hb
 | _,x::a,[],_,ha,_=>by rw[mrg];exact ha
 | 0,x::a,y::b,h,_,_=>by simp at h
 | n+1,x::a,y::b,h,ha,hb=>by
  simp only[zAk]at h
  obtain⟨a1,a2⟩:=List.pairwise_cons.1 ha
  obtain⟨b1,b2⟩:=List.pairwise_cons.1 hb
  rw[mrg]
  split
  ·rename_i hlt
   refine List.pairwise_cons.2 ⟨fun z hz=>?_,zgu n a (y::b) (by simp;omega) a2 hb⟩
   rcases(z8y n a (y::b) (by simp;omega) z).1 hz with h|h
   ·exact a1 z h
   ·rcases zAc.1 h with rfl|h
    ·exact hlt
    ·have:=b1 z h;omega
  ·split
   ·rename_i hlt
    refine List.pairwise_cons.2 ⟨fun z hz=>?_,zgu n (x::a) b (by simp;omega) ha b2⟩
    rcases(z8y n (x::a) b (by simp;omega) z).1 hz with h|h
    ·rcases zAc.1 h with rfl|h
     ·exact hlt
     ·have:=a1 z h;omega
    ·exact b1 z h
   ·have e:x=y:=by omega
    subst e
    refine List.pairwise_cons.2 ⟨fun z hz=>?_,zgu n a b (by omega) a2 b2⟩
    rcases(z8y n a b (by omega) z).1 hz with h|h
    ·exact a1 z h
    ·exact b1 z h
end Go.Lx
