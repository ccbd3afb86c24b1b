/- A part of the proof: LX1 to LX12. -/
import Derived.Test.YtmcggompdmngmaaGreatDoorUi
import Derived.Test.YtmcggompdmngmaaGreatDoorUy
set_option linter.all false
namespace Go.Lx
open Go Go.Rx Go.Ax
theorem zid:∀ x:List Nat,lsN x x=false
 | []=>rfl
 | a::x=>by rw[lsN,zid x,zAo (Nat.lt_irrefl a)];simp
theorem z7x:∀ {x y z:List Nat},lsN x y=true→lsN y z=true→lsN x z=true
 | [],[],_,h,_=>by simp[lsN] at h
 | _::_,[],_,h,_=>by simp[lsN] at h
 | [],b::y,[],_,h=>by simp[lsN] at h
 | [],b::y,c::z,_,_=>rfl
 | a::x,b::y,[],_,h=>by simp[lsN] at h
 | a::x,b::y,c::z,h,g=>by
  rw[lsN,zAu,zA7,zA3,zA3] at h g ⊢
  rcases h with h|⟨rfl,h⟩
  · rcases g with g|⟨rfl,g⟩
    · exact .inl (by omega)
    · exact .inl h
  · rcases g with g|⟨rfl,g⟩
    · exact .inl g
    · exact .inr ⟨rfl,z7x h g⟩
theorem y0t:∀ x y:List Nat,lsN x y=true∨x=y∨lsN y x=true
 | [],[]=>.inr (.inl rfl)
 | [],_::_=>.inl rfl
 | _::_,[]=>.inr (.inr rfl)
 | a::x,b::y=>by
  simp only[lsN,zAu,zA7,zA3]
  rcases Nat.lt_trichotomy a b with h|rfl|h
  · exact .inl (.inl h)
  · rcases y0t x y with h|rfl|h
    · exact .inl (.inr ⟨rfl,h⟩)
    · exact .inr (.inl rfl)
    · exact .inr (.inr (.inr ⟨rfl,h⟩))
  · exact .inr (.inr (.inl h))
theorem y3d {x y:List Nat} (h:lsN x y=true):lsN y x=false:=by
 cases e:lsN y x with
 | false=>rfl
 | true=>have:=z7x h e;rw[zid] at this;cases this
theorem zns:∀ (p x:List Nat),lsN (p++x) p=false
 | [],x=>by cases x <;> rfl
 | a::p,x=>by rw[List.cons_append,lsN,zns p x,zAo (Nat.lt_irrefl a)];simp
theorem ztr:∀ {p w x:List Nat},lsN w p=false→lsN w (p++x)=true∨w=p++x→p <+: w
 | [],w,x,_,_=>List.nil_prefix
 | a::p,[],x,h,_=>by simp[lsN] at h
 | a::p,b::w,x,h,g=>by
  simp only[lsN,Bool.or_eq_false_iff,Bool.and_eq_false_iff,zA5] at h
  rcases g with g|g
  · simp only[List.cons_append,lsN,zAu,zA7,zA3] at g
    rcases g with g|⟨rfl,g⟩
    · exact absurd g h.1
    · have h2:lsN w p=false:=by
       rcases h.2 with h2|h2
       · exact absurd rfl h2
       · exact h2
      exact List.cons_prefix_cons.2 ⟨rfl,ztr h2 (.inl g)⟩
  · rw[List.cons_append] at g
    cases g
    exact List.cons_prefix_cons.2 ⟨rfl,List.prefix_append _ _⟩
def ltS (a b:ByteArray):Bool:=lsN (btN a) (btN b)
theorem zee (a b:ByteArray):Op.bytesLess a.toList b.toList=ltS a b:=by
 rw[y0o,ByteArray.toList_eq,ByteArray.toList_eq];rfl
theorem zr8 (a b:ByteArray):ltS a b=true∨a=b∨ltS b a=true:=by
 rcases y0t (btN a) (btN b) with h|h|h
 · exact .inl h
 · exact .inr (.inl (zb4 h))
 · exact .inr (.inr h)
abbrev z9h (l:List ByteArray):Prop:=l.Pairwise fun a b=>ltS a b=true
theorem zlz:∀ {l m:List ByteArray},z9h l→z9h m→(∀ x,x∈l↔x∈m)→l=m
 | [],[],_,_,_=>rfl
 | [],y::m,_,_,h=>absurd ((h y).2 (by simp)) (by simp)
 | x::l,[],_,_,h=>absurd ((h x).1 (by simp)) (by simp)
 | x::l,y::m,hl,hm,h=>by
  obtain⟨h1,h2⟩:=List.pairwise_cons.1 hl
  obtain⟨g1,g2⟩:=List.pairwise_cons.1 hm
  have e:x=y:=by
   rcases zAc.1 ((h x).1 (by simp)) with e|e
   · exact e
   · rcases zAc.1 ((h y).2 (by simp)) with e2|e2
     · exact e2.symm
     · have a1:=g1 x e
       have a2:=h1 y e2
       rw[ltS] at a1 a2
       rw[y3d a1] at a2;cases a2
  subst e
  have hn:∀ {k:List ByteArray},(∀ a∈k,ltS x a=true)→x∉k:=fun hk hx=>by
   have:=hk x hx
   rw[ltS,zid] at this;cases this
  rw[zlz h2 g2 fun z=>⟨fun hz=>by
   rcases zAc.1 ((h z).1 (List.mem_cons_of_mem _ hz)) with rfl|e
   · exact absurd hz (hn h1)
   · exact e,fun hz=>by
   rcases zAc.1 ((h z).2 (List.mem_cons_of_mem _ hz)) with rfl|e
   · exact absurd hz (hn g1)
   · exact e⟩]
def zlu (w:ByteArray):List ByteArray→List ByteArray
 | []=>[w]
 | x::l=>if ltS x w=true then x::zlu w l else if x=w then x::l else w::x::l
theorem z9k (w:ByteArray):∀ (l:List ByteArray) (z:ByteArray),z∈zlu w l↔z=w∨z∈l
 | [],z=>by simp[zlu]
 | x::l,z=>by
  rw[zlu]
  split
  · rw[zAc,z9k w l z,zAc]
    constructor
    · exact zD154
    · exact zD154
  · split
    · rename_i h;subst h
      constructor
      · exact .inr
      · rintro(h|h)
        · rw[h];simp
        · exact h
    · rw[zAc]
theorem zab (w:ByteArray):∀ {l:List ByteArray},z9h l→z9h (zlu w l)
 | [],_=>by simp[zlu,z9h]
 | x::l,h=>by
  obtain⟨h1,h2⟩:=List.pairwise_cons.1 h
  rw[zlu]
  split
  · rename_i hx
    refine List.pairwise_cons.2 ⟨fun z hz=>?_,zab w h2⟩
    rcases (z9k w l z).1 hz with rfl|hz
    · exact hx
    · exact h1 z hz
  · split
    · exact h
    · rename_i hx hne
      have hw:ltS w x=true:=by
       rcases zr8 x w with g|g|g
       · exact absurd g hx
       · exact absurd g hne
       · exact g
      refine List.pairwise_cons.2 ⟨fun z hz=>?_,h⟩
      rcases zAc.1 hz with rfl|hz
      · exact hw
      · exact z7x hw (h1 z hz)
def wds (v:List ByteArray):List ByteArray:=v.foldl (fun l w=>zlu w l) []
theorem zhj:∀ (v l:List ByteArray),z9h l→z9h (v.foldl (fun l w=>zlu w l) l)∧∀ z,z∈v.foldl (fun l w=>zlu w l) l↔z∈l∨z∈v
 | [],l,h=>⟨h,fun z=>by simp⟩
 | w::v,l,h=>by
  obtain⟨h1,h2⟩:=zhj v (zlu w l) (zab w h)
  refine⟨h1,fun z=>?_⟩
  rw[List.foldl_cons,h2 z,z9k,zAc]
  constructor
  · rintro((h|h)|h)
    · exact .inr (.inl h)
    · exact .inl h
    · exact .inr (.inr h)
  · rintro(h|h|h)
    · exact .inl (.inr h)
    · exact .inl (.inl h)
    · exact .inr h
theorem z7o (v:List ByteArray):z9h (wds v):=(zhj v [] List.Pairwise.nil).1
theorem z8v (v:List ByteArray) (z:ByteArray):z∈wds v↔z∈v:=by
 rw[wds,(zhj v [] List.Pairwise.nil).2 z];simp
theorem y6h {v l:List ByteArray} (h:z9h l) (hm:∀ z,z∈l↔z∈v):l=wds v:=zlz h (z7o v) fun z=>by rw[hm,z8v]
def zgq (p w:ByteArray):Bool:=(btN p).isPrefixOf (btN w)
theorem zaa {p w:ByteArray}:zgq p w=true↔btN p <+: btN w:=List.isPrefixOf_iff_prefix
theorem y1t {p a b:ByteArray} (h1:ltS a p=false) (h2:ltS a b=true∨a=b) (hb:zgq p b=true):zgq p a=true:=by
 obtain⟨x,hx⟩:=zaa.1 hb
 refine zaa.2 (ztr (x:=x) h1 ?_)
 rcases h2 with h|h
 · left;rw[hx];exact h
 · right;rw[hx,h]
theorem y5d {p w:ByteArray} (h:zgq p w=true):ltS w p=false:=by
 obtain⟨x,hx⟩:=zaa.1 h
 rw[ltS,← hx];exact zns _ _
def zjr (f:Nat→Bool):Nat→Nat
 | 0=>0
 | n+1=>if f (zjr f n)=true∧zjr f n<n then zjr f n else if f n=true then n else n+1
theorem z4o (f:Nat→Bool):∀ n,zjr f n≤n∧(∀ i,i<zjr f n→f i=false)∧(zjr f n<n→f (zjr f n)=true)
 | 0=>⟨zAj _,fun i h=>absurd h (Nat.not_lt_zero _),fun h=>absurd h (Nat.not_lt_zero _)⟩
 | n+1=>by
  obtain⟨h1,h2,h3⟩:=z4o f n
  rw[zjr]
  by_cases hlt:zjr f n<n
  · rw[zAz ⟨h3 hlt,hlt⟩]
    exact⟨by omega,h2,fun _=>h3 hlt⟩
  · rw[zAy (fun h=>hlt h.2)]
    have e:zjr f n=n:=by omega
    rw[e] at h2
    by_cases hn:f n=true
    · rw[zAz hn]
      exact⟨by omega,h2,fun _=>hn⟩
    · rw[zAy hn]
      refine⟨zAj _,fun i hi=>?_,fun h=>absurd h (Nat.lt_irrefl _)⟩
      by_cases g:i=n
      · subst g;simpa using hn
      · exact h2 i (by omega)
theorem zt8 {f:Nat→Bool} {n k:Nat} (hk:k≤n) (h1:∀ i,i<k→f i=false) (h2:k<n→f k=true):zjr f n=k:=by
 obtain⟨g1,g2,g3⟩:=z4o f n
 rcases Nat.lt_trichotomy (zjr f n) k with h|h|h
 · have a:=g3 (by omega)
   rw[h1 _ h] at a;cases a
 · exact h
 · have a:=h2 (by omega)
   rw[g2 _ h] at a;cases a
def wd (W:List ByteArray) (i:Nat):ByteArray:=W.getD i ByteArray.empty
theorem zhz {W:List ByteArray} (h:z9h W) {i j:Nat} (hij:i<j) (hj:j<W.length):ltS (wd W i) (wd W j)=true:=by
 have e1:wd W i=W[i]:=by simp[wd,List.getD,show i<W.length by omega]
 have e2:wd W j=W[j]:=by simp[wd,List.getD,hj]
 rw[e1,e2]
 exact List.pairwise_iff_getElem.1 h i j (by omega) hj hij
def loS (W:List ByteArray) (p:ByteArray):Nat:=zjr (fun i=>!ltS (wd W i) p) W.length
def zjs (W:List ByteArray) (p:ByteArray):Nat:=zjr (fun k=>!zgq p (wd W (loS W p+k))) (W.length-loS W p)
def zul (W:List ByteArray) (p:ByteArray):Nat × Nat:=if zjs W p=0 then (0,0) else (loS W p,loS W p+zjs W p)
section
variable {W:List ByteArray} (h:z9h W) (p:ByteArray)
include h
theorem zm9 {i:Nat} (hi:i<loS W p):ltS (wd W i) p=true:=by
 have:=(z4o (fun i=>!ltS (wd W i) p) W.length).2.1 i hi
 simpa using this
theorem zoa {i:Nat} (hi:loS W p≤i) (hl:i<W.length):ltS (wd W i) p=false:=by
 obtain⟨g1,g2,g3⟩:=z4o (fun i=>!ltS (wd W i) p) W.length
 have h0:ltS (wd W (loS W p)) p=false:=by
  have:(!ltS (wd W (loS W p)) p)=true:=g3 (show loS W p<W.length by omega)
  simpa using this
 rcases Nat.lt_or_ge (loS W p) i with g|g
 · cases e:ltS (wd W i) p with
   | false=>rfl
   | true =>
    have:=z7x (zhz h g hl) e
    rw[ltS] at h0
    rw[h0] at this;cases this
 · rw[show i=loS W p by omega];exact h0
theorem lo_le:loS W p≤W.length:=(z4o _ _).1
theorem zh1 {i:Nat} (hl:i<W.length):zgq p (wd W i)=true↔loS W p≤i∧i<loS W p+zjs W p:=by
 have hlo:=lo_le h p
 obtain⟨g1,g2,g3⟩:=z4o (fun k=>!zgq p (wd W (loS W p+k))) (W.length-loS W p)
 change zjs W p≤_ at g1
 constructor
 · intro hp
   have hge:loS W p≤i:=by
    rcases Nat.lt_or_ge i (loS W p) with g|g
    · have:=zm9 h p g
      rw[y5d hp] at this;cases this
    · exact g
   refine⟨hge,?_⟩
   rcases Nat.lt_or_ge i (loS W p+zjs W p) with g|g
   · exact g
   · have hc:zjs W p<W.length-loS W p:=by omega
     have hn:=g3 hc
     change (!zgq p (wd W (loS W p+zjs W p)))=true at hn
     have:zgq p (wd W (loS W p+zjs W p))=true:=by
      refine y1t (zoa h p (by omega) (by omega)) ?_ hp
      rcases Nat.lt_or_ge (loS W p+zjs W p) i with k|k
      · exact .inl (zhz h k hl)
      · exact .inr (by rw[show loS W p+zjs W p=i by omega])
     rw[this] at hn;cases hn
 · rintro⟨h1,h2⟩
   have:=g2 (i-loS W p) (by show i-loS W p<zjs W p;omega)
   rw[show loS W p+(i-loS W p)=i by omega] at this
   simpa using this
theorem zyf {n:Nat} (hn:n<W.length) (hp:zgq p (wd W n)=true):n<(zul W p).2∧(zul W p).2≤W.length∧∀ i,n≤i→i<(zul W p).2→zgq p (wd W i)=true:=by
 obtain⟨h1,h2⟩:=(zh1 h p hn).1 hp
 have hc:zjs W p≠0:=by omega
 have hle:=(z4o (fun k=>!zgq p (wd W (loS W p+k))) (W.length-loS W p)).1
 change zjs W p≤_ at hle
 have hlo:=lo_le h p
 rw[zul,zAy hc]
 refine⟨h2,by simp only;omega,fun i hi h3=>?_⟩
 simp only at h3
 exact(zh1 h p (by omega)).2 ⟨by omega,h3⟩
end
def z4t (v:List ByteArray) (w:ByteArray):Nat:=v.countP fun x=>decide (x=w)
theorem zcc (v:List ByteArray) (x w:ByteArray):z4t (v++[x]) w=z4t v w+if x=w then 1 else 0:=by
 rw[z4t,z4t,List.countP_append,List.countP_singleton]
 by_cases h:x=w <;> simp[h]
theorem zg4 {v:List ByteArray} {w:ByteArray} (h:w∉v):z4t v w=0:=by
 rw[z4t,List.countP_eq_zero]
 intro x hx
 simp only[zA3]
 rintro rfl
 exact h hx
theorem zzn (v:List ByteArray) (w:ByteArray):z4t v w≤v.length:=List.countP_le_length
theorem zva (v:List ByteArray) (x:ByteArray):wds (v++[x])=zlu x (wds v):=by rw[wds,List.foldl_append];rfl
theorem z9t {W:List ByteArray} (h:z9h W):W.Nodup:=by
 refine List.Pairwise.imp (fun {a b} hab=>?_) h
 rintro rfl
 rw[ltS,zid] at hab;cases hab
theorem z3n {W:List ByteArray} {i:Nat} (h:i<W.length):W[i]? =some (wd W i):=by
 rw[wd,List.getD,zA0 h];rfl
theorem z4l {W:List ByteArray} {i:Nat} (h:i<W.length):wd W i∈W:=zA2 (z3n h)
theorem zt6 {W:List ByteArray} (h:z9h W) (x:ByteArray) {k:Nat} (hk:k≤W.length) (h1:∀ i,i<k→ltS (wd W i) x=true) (h2:k<W.length→ltS (wd W k) x=false):loS W x=k :=
 zt8 hk (fun i hi=>by rw[h1 i hi];rfl) (fun hi=>by rw[h2 hi];rfl)
theorem zrz {W:List ByteArray} (h:z9h W) {x:ByteArray} (hx:x∈W):loS W x<W.length∧wd W (loS W x)=x:=by
 obtain⟨j,hj⟩:=zAw hx
 have hjl:=(zA1.1 hj).1
 have hw:wd W j=x:=by rw[z3n hjl] at hj;simpa using hj
 have e:loS W x=j:=zt6 h x (by omega) (fun i hi=>by rw[← hw];exact zhz h hi hjl) (fun _=>by rw[hw,ltS,zid])
 rw[e];exact⟨hjl,hw⟩
theorem y6g {W:List ByteArray} (h:z9h W) (x:ByteArray):zlu x W=if loS W x<W.length∧wd W (loS W x)=x then W else W.take (loS W x)++x::W.drop (loS W x):=by
 split
 · rename_i g
   refine zlz (zab x h) h fun z=>?_
   rw[z9k]
   exact⟨fun q=>q.elim (fun e=>by rw[e,← g.2];exact z4l g.1) id,.inr⟩
 · rename_i g
   have hn:x∉W:=fun hx=>g (zrz h hx)
   refine zlz (zab x h) ?_ fun z=>?_
   · refine List.pairwise_append.2 ⟨h.sublist (List.take_sublist _ _),List.pairwise_cons.2 ⟨fun z hz=>?_,h.sublist (List.drop_sublist _ _)⟩,fun a ha b hb=>?_⟩
     · obtain⟨j,hj⟩:=zAw hz
       rw[List.getElem?_drop] at hj
       have hjl:=(zA1.1 hj).1
       have hw:wd W (loS W x+j)=z:=by rw[z3n hjl] at hj;simpa using hj
       have:=zoa h x (Nat.le_add_right _ j) hjl
       rw[hw] at this
       rcases zr8 x z with e|e|e
       · exact e
       · subst e;exact absurd (hw▸z4l hjl) hn
       · rw[this] at e;cases e
     · obtain⟨i,hi⟩:=zAw ha
       rw[List.getElem?_take] at hi
       split at hi
       · rename_i hil
         have hl:=(zA1.1 hi).1
         have hw:wd W i=a:=by rw[z3n hl] at hi;simpa using hi
         have hax:ltS a x=true:=by rw[← hw];exact zm9 h x hil
         rcases zAc.1 hb with rfl|hb
         · exact hax
         · obtain⟨j,hj⟩:=zAw hb
           rw[List.getElem?_drop] at hj
           have hjl:=(zA1.1 hj).1
           have hw2:wd W (loS W x+j)=b:=by rw[z3n hjl] at hj;simpa using hj
           rw[← hw,← hw2]
           exact zhz h (by omega) hjl
       · cases hi
   · rw[z9k,zAt,zAc]
     conv=>lhs;rw[← List.take_append_drop (loS W x) W,zAt]
     constructor
     · exact zD141
     · exact zD141
theorem zsg {W:List ByteArray} (hn:W.Nodup) (v:List ByteArray) {x:ByteArray} {k:Nat} (hk:W[k]? =some x):(W.map (z4t v)).set k (z4t v x+1)=W.map (z4t (v++[x])):=by
 apply List.ext_getElem?
 intro j
 rw[List.getElem?_set,zAd,zAd]
 have hkl:=(zA1.1 hk).1
 split
 · rename_i e;subst e
   rw[zA4,zAz hkl,hk]
   simp[zcc]
 · rename_i e
   cases hj:W[j]? with
   | none=>rfl
   | some y =>
    have:x≠y:=by
     rintro rfl
     exact e ((List.getElem?_inj hkl hn).1 (by rw[hk,hj]))
    simp[zcc,this]
theorem y3n (v W:List ByteArray) (x:ByteArray) (k:Nat) (hx:x∉v):(W.map (z4t v)).take k++0::(W.map (z4t v)).drop k=(W.take k++x::W.drop k).map (z4t v):=by
 rw[List.map_append,List.map_cons,zg4 hx,List.map_take,List.map_drop]
instance memB (x:ByteArray) (K:List ByteArray):Decidable (x∈K):=decidable_of_iff ((K.any fun y=>decide (y=x))=true) (by simp)
def zal (K:List ByteArray) (x:ByteArray):List ByteArray:=if x∈K then K else K++[x]
def zl1 (v:List ByteArray):List ByteArray:=v.foldl zal []
theorem zsu (v:List ByteArray) (x:ByteArray):zl1 (v++[x])=zal (zl1 v) x:=by rw[zl1,List.foldl_append];rfl
theorem zyj (K:List ByteArray) (x z:ByteArray):z∈zal K x↔z∈K∨z=x:=by
 rw[zal];split
 · rename_i h;exact⟨.inl,fun q=>q.elim id fun e=>e▸h⟩
 · simp
theorem zos {K:List ByteArray} (x:ByteArray) (h:K.Nodup):(zal K x).Nodup:=by
 rw[zal];split
 · exact h
 · rename_i g
   refine List.nodup_append.2 ⟨h,by simp,fun a ha b hb=>?_⟩
   simp at hb;subst hb
   rintro rfl;exact g ha
theorem za3:∀ (v K:List ByteArray),K.Nodup→(v.foldl zal K).Nodup∧(∀ z,z∈v.foldl zal K↔z∈K∨z∈v)∧(v.foldl zal K).length≤K.length+v.length
 | [],K,h=>⟨h,fun z=>by simp,by simp⟩
 | x::v,K,h=>by
  obtain⟨h1,h2,h3⟩:=za3 v (zal K x) (zos x h)
  refine⟨h1,fun z=>?_,?_⟩
  · rw[List.foldl_cons,h2 z,zyj,zAc,or_assoc]
  · have:(zal K x).length≤K.length+1:=by rw[zal];split <;> simp
    rw[List.foldl_cons,zAk];omega
theorem zb0 (v:List ByteArray):(zl1 v).Nodup:=(za3 v [] List.nodup_nil).1
theorem zc8 (v:List ByteArray) (z:ByteArray):z∈zl1 v↔z∈v:=by rw[zl1,(za3 v [] List.nodup_nil).2.1 z];simp
theorem zwd (v:List ByteArray):(zl1 v).length≤v.length:=by have:=(za3 v [] List.nodup_nil).2.2;simpa[zl1] using this
theorem ztt (v:List ByteArray):(wds v).length=(zl1 v).length:=by
 have h:(wds v).Perm (zl1 v):=(List.perm_ext_iff_of_nodup (z9t (z7o v)) (zb0 v)).2 fun z=>by rw[z8v,zc8]
 exact h.length_eq
theorem zkb (u v:List Int):txN (u++v)=txN u++txN v:=by rw[txN,txN,txN,List.flatMap_append]
theorem ze7:∀ {u v:List Int},(∀ c∈u,y2m c)→(∀ c∈v,y2m c)→txN u <+: txN v→u <+: v
 | [],v,_,_,_=>List.nil_prefix
 | a::u,[],hu,_,h=>by
  rw[z57] at h
  have:=List.prefix_nil.1 h
  exact absurd (List.append_eq_nil_iff.1 this).1 (zm2 _)
 | a::u,b::v,hu,hv,h=>by
  rw[z57,z57] at h
  obtain⟨x,hx⟩:=h
  have da:=zi8 (z5b a) (txN u++x)
  have db:=zi8 (z5b b) (txN v)
  rw[zAl] at hx
  rw[hx,db] at da
  have e:zaj b=zaj a:=congrArg Prod.fst da
  have ha:=z7d (zci.1 (hu a (by simp)))
  have hb:=z7d (zci.1 (hv b (by simp)))
  have hab:a=b:=by rw[← ha,← hb,e]
  subst hab
  have:=List.append_cancel_left hx
  exact List.cons_prefix_cons.2 ⟨rfl,ze7 (fun c hc=>hu c (by simp[hc])) (fun c hc=>hv c (by simp[hc])) ⟨x,this⟩⟩
def stL (a:Au) (lv:List Bool) (q c:Int):Int:=if 0≤a.nx q c∧lv.getD (a.nx q c).toNat false=true then a.nx q c else -1
def zny (a:Au) (lv:List Bool):Int→List Int→Nat→Bool × Nat
 | q,[],_=>(a.fin q,0)
 | q,c::l,at_=>if stL a lv q c<0 then (false,at_+zE c) else zny a lv (stL a lv q c) l (at_+zE c)
theorem zv0 (c:Int):1≤zE c:=(ztb (zaj c)).1
section
variable {a:Au} {lv:List Bool} (hlv:∀ q:Nat,lv.getD q false=false→∀ w,a.acc (q:Nat) w=false)
include hlv
theorem zkk {q c:Int} (h:stL a lv q c<0) (w:List Int):a.acc (a.nx q c) w=false:=by
 rw[stL] at h
 by_cases h0:0≤a.nx q c
 · have hl:lv.getD (a.nx q c).toNat false=false:=by
    cases e:lv.getD (a.nx q c).toNat false with
    | false=>rfl
    | true=>rw[zAz ⟨h0,e⟩] at h;omega
   have:=hlv _ hl w
   rwa [Int.toNat_of_nonneg h0] at this
 · exact a.acc_neg w (by omega)
theorem zxo {q c:Int} (h:¬ stL a lv q c<0):stL a lv q c=a.nx q c:=by
 rw[stL] at h ⊢
 split
 · rfl
 · rename_i g;rw[zAy g] at h;omega
theorem ze1:∀ (l:List Int) (q:Int) (n:Nat),((zny a lv q l n).2=0→(zny a lv q l n).1=a.acc q l)∧(0<(zny a lv q l n).2→∃ u v,l=u++v∧u≠[]∧(zny a lv q l n).2=n+(txN u).length∧∀ z,a.acc q (u++z)=false)
 | [],q,n=>⟨fun _=>rfl,fun h=>absurd h (Nat.lt_irrefl _)⟩
 | c::l,q,n=>by
  rw[zny]
  have hz:=zv0 c
  have ez:(txN [c]).length=zE c:=by simp[txN,zE]
  by_cases g:stL a lv q c<0
  · rw[zAz g]
    refine⟨fun h=>by simp only at h;omega,fun _=>⟨[c],l,rfl,by simp,by rw[ez],fun z=>?_⟩⟩
    exact zkk hlv g z
  · rw[zAy g]
    obtain⟨h1,h2⟩:=ze1 l (stL a lv q c) (n+zE c)
    refine⟨fun h=>?_,fun h=>?_⟩
    · rw[h1 h,Au.acc_cons,zxo hlv g]
    · obtain⟨u,v,e1,e2,e3,e4⟩:=h2 h
      refine⟨c::u,v,by rw[e1];rfl,by simp,?_,fun z=>?_⟩
      · rw[e3,show c::u=[c]++u from rfl,zkb,zAa,ez];omega
      · rw[List.cons_append,Au.acc_cons,← zxo hlv g];exact e4 z
theorem zxa {w w':ByteArray} (hw:z8q w=true) (hw':z8q w'=true) {d:Nat} (hd:(zny a lv 0 (Go.Rx.z2i w) 0).2=d) (h0:0<d) (hp:(btN w).take d <+: btN w'):a.acc 0 (Go.Rx.z2i w')=false:=by
 obtain⟨u,v,e1,_,e3,e4⟩:=(ze1 hlv (Go.Rx.z2i w) 0 0).2 (by omega)
 rw[hd,Nat.zero_add] at e3
 have k1:btN w=txN (Go.Rx.z2i w):=by conv=>lhs;rw[zcg hw,zaq]
 have k2:btN w'=txN (Go.Rx.z2i w'):=by conv=>lhs;rw[zcg hw',zaq]
 rw[k1,k2,e1,zkb,e3,List.take_left] at hp
 have hs:=z6b (s:=w)
 obtain⟨z,hz⟩:=ze7 (fun c hc=>hs c (by rw[e1];simp[hc])) z6b hp
 rw[← hz];exact e4 z
end
def lvP (a:Au) (lv:List Bool):Int→List Int→Nat→List Nat
 | _,[],_=>[]
 | q,c::l,n=>if stL a lv q c<0 then [] else (n+zE c)::lvP a lv (stL a lv q c) l (n+zE c)
def rfP (a:Au) (lv:List Bool):Int→List Int→Nat→List Nat
 | _,[],_=>[]
 | q,c::l,n=>if 0≤a.nx q c∧lv.getD (a.nx q c).toNat false=true then (n+zE c)::rfP a lv (a.nx q c) l (n+zE c) else rfP a lv (a.nx q c) l (n+zE c)
section
variable {a:Au} {lv:List Bool} (h1:∀ q:Nat,lv.getD q false=false→∀ w,a.acc (q:Nat) w=false) (h2:∀ q:Nat,lv.getD q false=true→∃ w,a.acc (q:Nat) w=true)
include h1 h2
theorem zkf:∀ (l:List Int) (q:Int) (n:Nat),(∀ w,a.acc q w=false)→rfP a lv q l n=[]
 | [],_,_,_=>rfl
 | c::l,q,n,hd=>by
  have hd2:∀ w,a.acc (a.nx q c) w=false:=fun w=>hd (c::w)
  rw[rfP,zAy,zkf l _ _ hd2]
  rintro⟨g0,g⟩
  obtain⟨w,hw⟩:=h2 _ g
  rw[Int.toNat_of_nonneg g0,hd2 w] at hw;cases hw
theorem y4y:∀ (l:List Int) (q:Int) (n:Nat),rfP a lv q l n=lvP a lv q l n
 | [],_,_=>rfl
 | c::l,q,n=>by
  rw[rfP,lvP]
  by_cases g:stL a lv q c<0
  · rw[zAz g]
    have hd:=zkk h1 g
    rw[zAy,zkf h1 h2 l _ _ hd]
    intro g2
    rw[stL,zAz g2] at g
    omega
  · rw[zAy g]
    have e:=zxo h1 g
    have:0≤a.nx q c∧lv.getD (a.nx q c).toNat false=true:=by
     rw[stL] at g
     by_cases g2:0≤a.nx q c∧lv.getD (a.nx q c).toNat false=true
     · exact g2
     · rw[zAy g2] at g;omega
    rw[zAz this,e,y4y l _ _]
end
theorem zkg (a:Au) (lv:List Bool):∀ (l:List Int) (q:Int) (n:Nat),(lvP a lv q l n).Pairwise (· <·)∧(∀ e∈lvP a lv q l n,n<e∧e≤n+(txN l).length)
 | [],_,_=>⟨List.Pairwise.nil,by simp[lvP]⟩
 | c::l,q,n=>by
  have hz:=zv0 c
  have ez:(txN (c::l)).length=zE c+(txN l).length:=by rw[z57,zAa];rfl
  rw[lvP]
  split
  · exact⟨List.Pairwise.nil,by simp⟩
  · obtain⟨i1,i2⟩:=zkg a lv l (stL a lv q c) (n+zE c)
    refine⟨List.pairwise_cons.2 ⟨fun e he=>(i2 e he).1,i1⟩,fun e he=>?_⟩
    rcases zAc.1 he with rfl|he
    · rw[ez];omega
    · have:=i2 e he
      rw[ez];omega
theorem zpz (a:Au) (lv:List Bool):∀ (l m:List Int) (q:Int) (n e:Nat),(∀ c∈l,y2m c)→(∀ c∈m,y2m c)→e∈lvP a lv q l n→(txN l).take (e-n) <+: txN m→e∈lvP a lv q m n
 | [],_,_,_,_,_,_,h,_=>by simp[lvP] at h
 | c::l,m,q,n,e,hl,hm,h,hp=>by
  have hz:=zv0 c
  have ec:(ecL (zaj c)).length=zE c:=rfl
  rw[lvP] at h
  split at h
  · simp at h
  · rename_i g
    have hle:n+zE c≤e:=by
     rcases zAc.1 h with rfl|h
     · exact zAj _
     · have:=(zkg a lv l _ _).2 e h;omega
    rw[z57,List.take_append,List.take_of_length_le (by rw[ec];omega)] at hp
    have hp0:txN [c] <+: txN m:=by
     rw[z57,show txN []=[] from rfl,List.append_nil]
     exact(List.prefix_append _ _).trans hp
    obtain⟨r,hr⟩:=ze7 (u:=[c]) (by intro x hx;simp at hx;subst hx;exact hl _ (by simp)) hm hp0
    subst hr
    rw[show [c]++r=c::r from rfl,lvP,zAy g]
    rcases zAc.1 h with rfl|h
    · simp
    · refine List.mem_cons_of_mem _ (zpz a lv l r _ _ e (fun x hx=>hl x (by simp[hx])) (fun x hx=>hm x (by simp[hx])) h ?_)
      rw[show [c]++r=c::r from rfl,z57] at hp
      have:=(List.prefix_append_right_inj _).1 hp
      rw[ec,show e-n-zE c=e-(n+zE c) by omega] at this
      exact this
def zp2 (b w:ByteArray) (e:Nat):Bool:=!(decide (e≤b.size)&&decide ((btN b).take e=(btN w).take e))
def zi7 (a:Au) (lv:List Bool):ByteArray→List ByteArray→Nat
 | _,[]=>0
 | b,w::W=>((lvP a lv 0 (Go.Rx.z2i w) 0).filter (zp2 b w)).length+zi7 a lv w W
def zqx (a:Au) (lv:List Bool):List (List Nat)→List ByteArray→List (List Nat)
 | S,[]=>S
 | S,w::W=>zqx a lv ((lvP a lv 0 (Go.Rx.z2i w) 0).foldl (fun S e=>z6z S ((btN w).take e)) S) W
theorem zu6 {w:List Nat} {f:Nat→Bool}:∀ (es:List Nat) (S:List (List Nat)),S.Nodup→es.Pairwise (· <·)→(∀ e∈es,e≤w.length)→(∀ e∈es,f e=true↔w.take e∉S) →
 (es.foldl (fun S e=>z6z S (w.take e)) S).Nodup∧(es.foldl (fun S e=>z6z S (w.take e)) S).length=S.length+(es.filter f).length∧∀ p,p∈es.foldl (fun S e=>z6z S (w.take e)) S↔p∈S∨∃ e∈es,p=w.take e
 | [],S,h,_,_,_=>⟨h,by simp,fun p=>by simp⟩
 | e::es,S,h,ho,hl,hf=>by
  obtain⟨ho1,ho2⟩:=List.pairwise_cons.1 ho
  have hne:∀ e'∈es,w.take e'≠w.take e:=fun e' he' hc=>by
   have:=congrArg List.length hc
   rw[zAm,zAm] at this
   have:=ho1 e' he'
   have:=hl e' (by simp[he'])
   omega
  have hmem:∀ p,p∈z6z S (w.take e)↔p∈S∨p=w.take e:=fun p=>by
   rw[z6z]
   split
   · rename_i g
     exact⟨.inl,fun h=>h.elim id (fun h=>h▸g)⟩
   · simp
  obtain⟨i1,i2,i3⟩:=zu6 (f:=f) es (z6z S (w.take e)) (z7v h) ho2 (fun e' he'=>hl e' (by simp[he'])) (fun e' he'=>by
   rw[hf e' (by simp[he']),hmem]
   exact⟨fun g c=>c.elim g (hne e' he'),fun g c=>g (.inl c)⟩)
  rw[List.foldl_cons]
  refine⟨i1,?_,fun p=>?_⟩
  · rw[i2,List.filter_cons]
    have hfe:=hf e (by simp)
    by_cases g:w.take e∈S
    · have:f e=false:=by cases k:f e;rfl;exact absurd g (hfe.1 k)
      rw[this,z6z,zAz g];simp
    · rw[hfe.2 g,z6z,zAy g]
      simp;omega
  · rw[i3 p,hmem]
    exact zD51
def y40 (a:Au) (lv:List Bool) (V:List ByteArray) (S:List (List Nat)):Prop:=S.Nodup∧∀ p,p∈S↔p=[]∨∃ v∈V,∃ e∈lvP a lv 0 (Go.Rx.z2i v) 0,p=(btN v).take e
theorem zpd {w:ByteArray} (h:z8q w=true):btN w=txN (Go.Rx.z2i w):=by conv=>lhs;rw[zcg h,zaq]
theorem zm4 (a:Au) (lv:List Bool):∀ (W V:List ByteArray) (b:ByteArray) (S:List (List Nat)),z9h (V++W)→(∀ w∈V++W,z8q w=true)→(V=[]∧b=ByteArray.empty∨∃ V',V=V'++[b])→y40 a lv V S →
 (zqx a lv S W).length=S.length+zi7 a lv b W
 | [],V,b,S,_,_,_,_=>by simp[zqx,zi7]
 | w::W,V,b,S,hasc,hv,hb,hS=>by
  have hw:=hv w (by simp)
  obtain⟨o1,o2⟩:=zkg a lv (Go.Rx.z2i w) 0 0
  have hlen:(txN (Go.Rx.z2i w)).length=(btN w).length:=by rw[zpd hw]
  have key:∀ e∈lvP a lv 0 (Go.Rx.z2i w) 0,zp2 b w e=true↔(btN w).take e∉S:=fun e he=>by
   have hoe:=o2 e he
   have hne:(btN w).take e≠[]:=fun h=>by
    have:=congrArg List.length h
    rw[zAm,List.length_nil] at this
    omega
   rw[zp2,zA6,Bool.and_eq_false_iff,zA5,zA5,hS.2]
   constructor
   · rintro hn (h|⟨v,hvV,e',he',hpe⟩)
     · exact hne h
     · -- the word before has it too
       rcases hb with ⟨rfl,_⟩|⟨V',rfl⟩
       · cases hvV
       · have hasc':=hasc
         rw[zAl] at hasc'
         have hbw:ltS b w=true:=by
          have:=(List.pairwise_append.1 hasc').2.1
          exact(List.pairwise_cons.1 this).1 w (by simp)
         have hvb:ltS v b=true∨v=b:=by
          rcases zAt.1 hvV with g|g
          · exact .inl ((List.pairwise_append.1 hasc').2.2 v g b (by simp))
          · exact .inr (by simpa using g)
         have hpw:(btN w).take e <+: btN w:=List.take_prefix _ _
         have hpv:(btN w).take e <+: btN v:=by rw[hpe];exact List.take_prefix _ _
         obtain⟨x,hx⟩:=hpw
         obtain⟨y,hy⟩:=hpv
         have hge:lsN (btN b) ((btN w).take e)=false:=by
          rcases hvb with g|g
          · cases k:lsN (btN b) ((btN w).take e) with
            | false=>rfl
            | true =>
             have:=z7x g k
             rw[← hy,zns] at this;cases this
          · rw[← g,← hy];exact zns _ _
         have hpb:=ztr (x:=x) hge (.inl (by rw[hx];exact hbw))
         obtain⟨z,hz⟩:=hpb
         have hl:((btN w).take e).length=e:=by rw[zAm];omega
         have hbl:=z3p b
         have:e≤b.size:=by
          have:=congrArg List.length hz
          rw[zAa,hl] at this;omega
         rcases hn with hn|hn
         · exact hn this
         · refine hn ?_
           have h5:(btN b).take ((btN w).take e).length=(btN w).take e:=by
            conv=>lhs;rw[← hz]
            exact List.take_left
           rw[hl] at h5
           exact h5
   · intro hn
     by_cases g1:e≤b.size
     · right
       intro g2
       refine hn (.inr ?_)
       rcases hb with ⟨_,rfl⟩|⟨V',rfl⟩
       · have:ByteArray.empty.size=0:=rfl
         omega
       · have hbv:=hv b (by simp)
         refine⟨b,by simp,e,?_,g2.symm⟩
         refine zpz a lv (Go.Rx.z2i w) (Go.Rx.z2i b) 0 0 e z6b z6b he ?_
         rw[Nat.sub_zero,← zpd hw,← zpd hbv,← g2]
         exact List.take_prefix _ _
     · exact .inl g1
  obtain⟨i1,i2,i3⟩:=zu6 (w:=btN w) (f:=zp2 b w) _ S hS.1 o1 (fun e he=>by have:=(o2 e he).2;omega) key
  rw[zqx,zi7]
  have hVW:(V++[w])++W=V++w::W:=by simp
  rw[zm4 a lv W (V++[w]) w _ (by rw[hVW];exact hasc) (fun x hx=>hv x (by rw[← hVW];exact hx)) (.inr ⟨V,rfl⟩) ⟨i1,fun p=>?_⟩,i2]
  · omega
  · rw[i3 p,hS.2 p]
    constructor
    · rintro((h|⟨v,h1,h2⟩)|⟨e,he,h⟩)
      · exact .inl h
      · exact .inr ⟨v,by simp[h1],h2⟩
      · exact .inr ⟨w,by simp,e,he,h⟩
    · rintro(h|⟨v,h1,h2⟩)
      · exact .inl (.inl h)
      · rcases zAt.1 h1 with h1|h1
        · exact .inl (.inr ⟨v,h1,h2⟩)
        · have:v=w:=by simpa using h1
          subst this
          exact .inr h2
theorem zzj {a:Au} {lv:List Bool} {W:List ByteArray} (h:z9h W) (hv:∀ w∈W,z8q w=true):(zqx a lv [[]] W).length=1+zi7 a lv ByteArray.empty W :=
 zm4 a lv W [] ByteArray.empty [[]] h hv (.inl ⟨rfl,rfl⟩) ⟨by simp,fun p=>by simp⟩
def sel (f:Nat→Bool) (n:Nat):List Nat:=(List.range n).filter f
theorem zc2 (f:Nat→Bool) (n:Nat):sel f (n+1)=sel f n++if f n=true then [n] else []:=by
 rw[sel,List.range_succ,List.filter_append]
 by_cases h:f n=true <;> simp[sel,h]
theorem z9q {f:Nat→Bool} {n:Nat}:∀ {m:Nat},n≤m→(∀ i,n≤i→i<m→f i=false)→sel f m=sel f n
 | 0,h,_=>by rw[show n=0 by omega]
 | m+1,h,hf=>by
  by_cases e:n=m+1
  · rw[e]
  · rw[zc2,zAy (by rw[hf m (by omega) (by omega)];decide),List.append_nil]
    exact z9q (by omega) fun i h1 h2=>hf i h1 (by omega)
theorem zh7 (f:Nat→Bool) (n:Nat):(sel f n).length≤n:=by
 have:=List.length_filter_le f (List.range n)
 simpa[sel] using this
theorem zl7 {f:Nat→Bool} {n i:Nat}:i∈sel f n↔i<n∧f i=true:=by simp[sel]
def zc1:Option Int→Int→Bool
 | none,_=>false
 | some q,k=>decide (k≤q)
def zzo (o:List (Int × Int)) (k:Int):List (Int × Int) :=
 match o.getLast? with
 | some p=>if p.2=k then o.set (o.length-1) (p.1,p.2+1) else o++[(k,k+1)]
 | none=>o++[(k,k+1)]
def zhs:Option Int→List (Int × Int)→List Int→List (Int × Int) × Int
 | _,o,[]=>(o,0)
 | p,o,k::l=>if k<0∨2147483646<k then ([],8) else if zc1 p k=true then ([],6) else zhs (some k) (zzo o k) l
theorem zvv (o:List (Int × Int)) (k:Int):(zzo o k).length≤o.length+1:=by
 rw[zzo]
 cases h:o.getLast? with
 | none=>simp
 | some p=>simp only;split <;> simp
theorem zj7 (a:Au) (lv:List Bool):∀ (W V:List ByteArray) (S:List (List Nat)),y40 a lv V S→y40 a lv (V++W) (zqx a lv S W)
 | [],V,S,h=>by simpa[zqx] using h
 | w::W,V,S,h=>by
  rw[zqx]
  have hmem:∀ (es:List Nat) (S:List (List Nat)),S.Nodup→(es.foldl (fun S e=>z6z S ((btN w).take e)) S).Nodup∧∀ p,p∈es.foldl (fun S e=>z6z S ((btN w).take e)) S↔p∈S∨∃ e∈es,p=(btN w).take e:=fun es=>by
   induction es with
   | nil=>exact fun S hS=>⟨hS,fun p=>by simp⟩
   | cons e es ih =>
    intro S hS
    obtain⟨i1,i2⟩:=ih (z6z S ((btN w).take e)) (z7v hS)
    refine⟨i1,fun p=>?_⟩
    have hm:p∈z6z S ((btN w).take e)↔p∈S∨p=(btN w).take e:=by
     rw[z6z];split
     · rename_i g;exact⟨.inl,fun h=>h.elim id (fun h=>h▸g)⟩
     · simp
    rw[List.foldl_cons,i2 p,hm]
    exact zD51
  obtain⟨i1,i2⟩:=hmem (lvP a lv 0 (Go.Rx.z2i w) 0) S h.1
  have:=zj7 a lv W (V++[w]) _ ⟨i1,fun p=>by
   rw[i2 p,h.2 p]
   constructor
   · rintro((g|⟨v,h1,h2⟩)|⟨e,he,g⟩)
     · exact .inl g
     · exact .inr ⟨v,by simp[h1],h2⟩
     · exact .inr ⟨w,by simp,e,he,g⟩
   · rintro(g|⟨v,h1,h2⟩)
     · exact .inl (.inl g)
     · rcases zAt.1 h1 with h1|h1
       · exact .inl (.inr ⟨v,h1,h2⟩)
       · have:v=w:=by simpa using h1
         subst this
         exact .inr h2⟩
  rwa [zAl] at this
section
variable {a:Au} {lv:List Bool} (hlv:∀ q:Nat,lv.getD q false=false→∀ w,a.acc (q:Nat) w=false)
include hlv
theorem zly:∀ (l:List Int) (q:Int) (n:Nat),l≠[]→a.acc q l=true→n+(txN l).length∈lvP a lv q l n
 | [],_,_,h,_=>absurd rfl h
 | c::l,q,n,_,h=>by
  have ez:(txN (c::l)).length=zE c+(txN l).length:=by rw[z57,zAa];rfl
  rw[lvP]
  by_cases g:stL a lv q c<0
  · have:=zkk hlv g l
    rw[Au.acc_cons] at h
    rw[this] at h;cases h
  · rw[zAy g,ez]
    cases l with
    | nil=>simp[txN]
    | cons d l =>
     have:=zly (d::l) (stL a lv q c) (n+zE c) (by simp) (by rw[zxo hlv g];rw[Au.acc_cons] at h;exact h)
     rw[Nat.add_assoc] at this
     exact List.mem_cons_of_mem _ (by rw[← Nat.add_assoc] at this ⊢;exact this)
theorem y3l {W:List ByteArray} (h:z9h W) (hv:∀ w∈W,z8q w=true):(sel (fun i=>a.acc 0 (Go.Rx.z2i (wd W i))) W.length).length≤1+zi7 a lv ByteArray.empty W:=by
 rw[← zzj h hv]
 have hs:=zj7 a lv W [] [[]] ⟨by simp,fun p=>by simp⟩
 rw[List.nil_append] at hs
 generalize zqx a lv [[]] W=S at hs
 have hsub:∀ p∈(sel (fun i=>a.acc 0 (Go.Rx.z2i (wd W i))) W.length).map fun i=>btN (wd W i),p∈S:=fun p hp=>by
  obtain⟨i,hi,rfl⟩:=List.mem_map.1 hp
  obtain⟨h1,h2⟩:=zl7.1 hi
  rw[hs.2]
  have hw:=hv _ (z4l h1)
  by_cases hz:Go.Rx.z2i (wd W i)=[]
  · left
    rw[zpd hw,hz];rfl
  · right
    have:=zly hlv (Go.Rx.z2i (wd W i)) 0 0 hz h2
    rw[Nat.zero_add,← zpd hw] at this
    exact⟨_,z4l h1,_,this,(List.take_length).symm⟩
 have hnd:((sel (fun i=>a.acc 0 (Go.Rx.z2i (wd W i))) W.length).map fun i=>btN (wd W i)).Nodup:=by
  refine List.pairwise_map.2 (List.Pairwise.imp_of_mem ?_ ((List.nodup_range).filter _))
  intro i j hi hj hne hij
  refine hne ?_
  obtain⟨h1,_⟩:=zl7.1 hi
  obtain⟨h2,_⟩:=zl7.1 hj
  have e:=zb4 hij
  have n:=z9t h
  have g1:=z3n h1
  have g2:=z3n h2
  rw[e,← g2] at g1
  exact(List.getElem?_inj h1 n).1 g1
 have:=hnd.length_le_of_subset hsub
 rwa [zA4] at this
end
end Go.Lx
namespace Go.Lx
open Go Go.Rx Go.Ax
def mkA (i:Nat) (s:List Bool × Bool) (x:Arc):List Bool × Bool:=if s.1.getD i false=false∧s.1.getD x.2.2.toNat false=true then (s.1.set i true,true) else s
def mkP:Nat→List (List Arc)→List Bool × Bool→List Bool × Bool
 | _,[],s=>s
 | i,l::A,s=>mkP (i+1) A (l.foldl (mkA i) s)
def mkM (A:List (List Arc)):Nat→List Bool→List Bool
 | 0,L=>L
 | n+1,L=>if (mkP 0 A (L,false)).2=true then mkM A n (mkP 0 A (L,false)).1 else (mkP 0 A (L,false)).1
structure MkS (F:List Bool) (A:List (List Arc)) (s s':List Bool × Bool):Prop where
 len:s'.1.length=s.1.length
 le:leB s.1 s'.1
 sound:(∀ q:Nat,s.1[q]? =some true→z5c F A q)→∀ q:Nat,s'.1[q]? =some true→z5c F A q
 flag:s'.2=false→s'=s
 grow:s'.2=true→s.2=true∨s'.1.count false<s.1.count false
 cnt:s'.1.count false≤s.1.count false
variable {F:List Bool} {A:List (List Arc)}
theorem MkS.refl (s:List Bool × Bool):MkS F A s s:=⟨rfl,ze9 _,id,fun _=>rfl,.inl,zAj _⟩
theorem MkS.trans {s s' s'':List Bool × Bool} (h:MkS F A s s') (g:MkS F A s' s''):MkS F A s s'':=by
 refine⟨g.len.trans h.len,z7b h.le g.le,fun x=>g.sound (h.sound x),fun x=>?_,fun x=>?_,Nat.le_trans g.cnt h.cnt⟩
 · have e:=g.flag x
   rw[e] at x ⊢
   exact h.flag x
 · rcases g.grow x with e|e
   · rcases h.grow e with k|k
     · exact .inl k
     · exact .inr (Nat.lt_of_le_of_lt g.cnt k)
   · exact .inr (zAx e h.cnt)
theorem getD_some {L:List Bool} {i:Nat} (h:i<L.length):L[i]? =some (L.getD i false):=by
 rw[List.getD,zA0 h];rfl
theorem ze6 {L:List Bool} {i:Nat} (h:L.getD i false=true):L[i]? =some true:=by
 rcases Nat.lt_or_ge i L.length with g|g
 · rw[getD_some g,h]
 · rw[List.getD,zAv g] at h;cases h
theorem y7r {i:Nat} {l:List Arc} {x:Arc} (hl:A[i]? =some l) (hx:x∈l) (s:List Bool × Bool) (hi:i<s.1.length):MkS F A s (mkA i s x):=by
 rw[mkA]
 split
 · rename_i h
   have hf:s.1[i]? =some false:=by rw[getD_some hi,h.1]
   refine⟨by simp,?_,fun hs q hq=>?_,fun h=>(by cases h),fun _=>.inr ?_,?_⟩
   · have:=zte s.1 i true
     rwa [Bool.or_true] at this
   · by_cases e:i=q
     · subst e
       exact .arc i l x hl hx (hs _ (ze6 h.2))
     · rw[List.getElem?_set_ne e] at hq;exact hs q hq
   · have:=count_set hf;simp only;omega
   · have:=count_set hf;simp only;omega
 · exact .refl s
theorem zyv {i:Nat} {l:List Arc} (hl:A[i]? =some l):∀ (m:List Arc) (s:List Bool × Bool),(∀ x∈m,x∈l)→i<s.1.length→MkS F A s (m.foldl (mkA i) s)
 | [],s,_,_=>.refl s
 | x::m,s,h,hi=>by
  have h1:=y7r (F:=F) hl (h x (by simp)) s hi
  rw[List.foldl_cons]
  exact h1.trans (zyv hl m _ (fun y hy=>h y (by simp[hy])) (by rw[h1.len];exact hi))
theorem zto:∀ (B:List (List Arc)) (i:Nat) (s:List Bool × Bool),(∀ (k:Nat) (l:List Arc),B[k]? =some l→A[i+k]? =some l)→i+B.length≤s.1.length→MkS F A s (mkP i B s)
 | [],i,s,_,_=>.refl s
 | l::B,i,s,h,hi=>by
  rw[zAk] at hi
  have h1:=zyv (F:=F) (h 0 l rfl) l s (fun _ hx=>hx) (by omega)
  rw[Nat.add_zero] at h1
  rw[mkP]
  exact h1.trans (zto B (i+1) _ (fun k m hm=>by rw[show i+1+k=i+(k+1) by omega];exact h (k+1) m (by simpa using hm)) (by rw[h1.len];omega))
theorem zfk {F:List Bool} {i:Nat} {l:List Arc} (hl:A[i]? =some l):∀ (m:List Arc) (s:List Bool × Bool),(∀ x∈m,x∈l)→i<s.1.length→(m.foldl (mkA i) s).2=false→∀ x∈m,s.1.getD x.2.2.toNat false=true→s.1.getD i false=true
 | [],s,_,_,_,x,hx,_=>by cases hx
 | x::m,s,h,hi,hf,y,hy,hg=>by
  have h1:=y7r (F:=F) hl (h x (by simp)) s hi
  have h2:=zyv (F:=F) hl m (mkA i s x) (fun y hy=>h y (by simp[hy])) (by rw[h1.len];exact hi)
  rw[List.foldl_cons] at hf
  have e2:=h2.flag hf
  have hf1:(mkA i s x).2=false:=by rw[← e2];exact hf
  have e1:=h1.flag hf1
  rcases zAc.1 hy with rfl|hy
  · cases e:s.1.getD i false with
    | true=>rfl
    | false =>
     rw[mkA,zAz ⟨e,hg⟩] at hf1;cases hf1
  · rw[e1] at hf
    exact zfk (F:=F) hl m s (fun y hy=>h y (by simp[hy])) hi hf y hy hg
theorem zey {F:List Bool}:∀ (B:List (List Arc)) (i:Nat) (s:List Bool × Bool),(∀ (k:Nat) (l:List Arc),B[k]? =some l→A[i+k]? =some l)→i+B.length≤s.1.length→(mkP i B s).2=false→∀ (k:Nat) (l:List Arc),B[k]? =some l→∀ x∈l,s.1.getD x.2.2.toNat false=true→s.1.getD (i+k) false=true
 | [],i,s,_,_,_,k,l,hk,x,hx,_=>by simp at hk
 | l::B,i,s,h,hi,hf,k,m,hk,x,hx,hg=>by
  rw[zAk] at hi
  have hB:∀ (k:Nat) (m:List Arc),B[k]? =some m→A[i+1+k]? =some m:=fun k m hm=>by rw[show i+1+k=i+(k+1) by omega];exact h (k+1) m (by simpa using hm)
  have h1:=zyv (F:=F) (h 0 l rfl) l s (fun _ hx=>hx) (by omega)
  rw[Nat.add_zero] at h1
  have hle:i+1+B.length≤(l.foldl (mkA i) s).1.length:=by rw[h1.len];omega
  have h2:=zto (F:=F) B (i+1) _ hB hle
  rw[mkP] at hf
  have e2:=h2.flag hf
  have hf1:(l.foldl (mkA i) s).2=false:=by rw[← e2];exact hf
  have e1:=h1.flag hf1
  cases k with
  | zero =>
   simp at hk;subst hk
   exact zfk (F:=F) (h 0 l rfl) l s (fun _ hx=>hx) (by omega) hf1 x hx hg
  | succ k =>
   rw[e1] at hf
   have:=zey (F:=F) B (i+1) s hB (by rw[e1] at hle;exact hle) hf k m (by simpa using hk) x hx hg
   rwa [show i+1+k=i+(k+1) by omega] at this
theorem zho (hAF:A.length=F.length):∀ (n:Nat) (L:List Bool),L.length=F.length→L.count false<n→(∀ q:Nat,L[q]? =some true→z5c F A q)→leB F L→mkM A n L=z5h F A
 | 0,L,_,h,_,_=>by omega
 | n+1,L,hl,hc,hs,hle=>by
  have hm:=zto (F:=F) A 0 (L,false) (fun k l hk=>by rw[Nat.zero_add];exact hk) (by simp only;omega)
  rw[mkM]
  split
  · rename_i e
    refine zho hAF n _ (by rw[hm.len];exact hl) ?_ (hm.sound hs) (z7b hle hm.le)
    rcases hm.grow e with g|g
    · cases g
    · simp only at g;omega
  · rename_i e
    have e':(mkP 0 A (L,false)).2=false:=by simpa using e
    have hcl:=zey (F:=F) A 0 (L,false) (fun k l hk=>by rw[Nat.zero_add];exact hk) (by simp only;omega) e'
    have hst:=hm.flag e'
    rw[hst]
    refine zlm hl fun q=>⟨hs q,fun hq=>?_⟩
    induction hq with
    | fin q h1 =>
     have:=zz4 hle q (by rw[List.getD,h1];rfl)
     exact ze6 this
    | arc q l x h1 h2 h3 ih =>
     have:=hcl q l h1 x h2 (by simp only;rw[List.getD,ih];rfl)
     rw[Nat.zero_add] at this
     exact ze6 this
def mkV (A:List (List Arc)):Nat→List Bool→List Bool
 | 0,L=>L
 | n+1,L=>mkV A n (mkP 0 A (L,false)).1
theorem zun {L:List Bool} (h:(mkP 0 A (L,false)).1=L):∀ n,mkV A n L=L
 | 0=>rfl
 | n+1=>by rw[mkV,h];exact zun h n
theorem zom (hAF:A.length=F.length):∀ (n:Nat) (L:List Bool),L.length=F.length→L.count false≤n→(∀ q:Nat,L[q]? =some true→z5c F A q)→leB F L→(∀ l∈A,∀ x∈l,0≤x.2.2∧x.2.2<F.length)→mkV A n L=z5h F A
 | 0,L,hl,hc,hs,hle,hr=>by
  rw[mkV]
  have hall:∀ q:Nat,q<F.length→L[q]? =some true:=fun q hq=>by
   have h1:L[q]? =some (L[q]'(by omega)):=zA0 (by omega)
   cases e:L[q]'(by omega) with
   | true=>rw[h1,e]
   | false =>
    have:false∈L:=by rw[← e];exact List.getElem_mem _
    have:=List.count_pos_iff.2 this
    omega
  refine zlm hl fun q=>⟨hs q,fun hq=>?_⟩
  cases hq with
  | fin q h1=>exact hall q (zA1.1 h1).1
  | arc q l x h1 h2 h3=>exact hall q (by rw[← hAF];exact(zA1.1 h1).1)
 | n+1,L,hl,hc,hs,hle,hr=>by
  have hm:=zto (F:=F) A 0 (L,false) (fun k l hk=>by rw[Nat.zero_add];exact hk) (by simp only;omega)
  rw[mkV]
  by_cases e:(mkP 0 A (L,false)).2=true
  · refine zom hAF n _ (by rw[hm.len];exact hl) ?_ (hm.sound hs) (z7b hle hm.le) hr
    rcases hm.grow e with g|g
    · cases g
    · simp only at g;omega
  · have e':(mkP 0 A (L,false)).2=false:=by simpa using e
    have hst:=hm.flag e'
    have h1:(mkP 0 A (L,false)).1=L:=by rw[hst]
    rw[h1,zun h1 n]
    have:=zho hAF (L.count false+1) L hl (by omega) hs hle
    rw[mkM,zAy e,h1] at this
    exact this
end Go.Lx
namespace Go.Lx
open Go Go.Rx Go.Ax
theorem zgr (w:ByteArray) (e:Nat):btN (w.extract 0 e)=(btN w).take e:=by
 simp[btN,ByteArray.data_extract,List.map_take]
def y04 (a:Au) (lv:List Bool) (K:List ByteArray) (w:ByteArray):List ByteArray:=(rfP a lv 0 (Go.Rx.z2i w) 0).foldl (fun K e=>zal K (w.extract 0 e)) K
def zib (a:Au) (lv:List Bool) (K:List ByteArray) (W:List ByteArray):List ByteArray:=W.foldl (y04 a lv) K
theorem y5c (K:List ByteArray) (x:ByteArray):(zal K x).map btN=z6z (K.map btN) (btN x):=by
 rw[zal,z6z]
 have:btN x∈K.map btN↔x∈K:=by
  rw[List.mem_map]
  exact⟨fun ⟨y,hy,e⟩=>zb4 e▸hy,fun h=>⟨x,h,rfl⟩⟩
 by_cases h:x∈K
 · rw[zAz h,zAz (this.2 h)]
 · rw[zAy h,zAy (fun g=>h (this.1 g))];simp
theorem zzx (w:ByteArray):∀ (es:List Nat) (K:List ByteArray),(es.foldl (fun K e=>zal K (w.extract 0 e)) K).map btN=es.foldl (fun S e=>z6z S ((btN w).take e)) (K.map btN)
 | [],K=>rfl
 | e::es,K=>by rw[List.foldl_cons,List.foldl_cons,zzx w es,y5c,zgr]
section
variable {a:Au} {lv:List Bool} (h1:∀ q:Nat,lv.getD q false=false→∀ w,a.acc (q:Nat) w=false) (h2:∀ q:Nat,lv.getD q false=true→∃ w,a.acc (q:Nat) w=true)
include h1 h2
theorem zqh:∀ (W K:List ByteArray),(zib a lv K W).map btN=zqx a lv (K.map btN) W
 | [],K=>rfl
 | w::W,K=>by
  rw[zib,List.foldl_cons,zqx]
  have:=zqh W (y04 a lv K w)
  rw[zib] at this
  rw[this,y04,zzx,y4y h1 h2]
theorem zx4 {W:List ByteArray} (h:z9h W) (hv:∀ w∈W,z8q w=true):(zib a lv [ByteArray.empty] W).length=1+zi7 a lv ByteArray.empty W:=by
 rw[← zzj h hv]
 have:=congrArg List.length (zqh h1 h2 W [ByteArray.empty])
 rw[zA4] at this
 rw[this];rfl
theorem zih (h0:∀ w,a.acc 0 w=false):∀ (W K:List ByteArray),zib a lv K W=K
 | [],K=>rfl
 | w::W,K=>by
  rw[zib,List.foldl_cons,y04,zkf h1 h2 _ _ _ h0,List.foldl_nil]
  exact zih h0 W K
end
theorem ztx (a:Au) (lv:List Bool):∀ (l:List Int) (q:Int) (n:Nat),(lvP a lv q l n).length≤l.length
 | [],_,_=>by simp[lvP]
 | c::l,q,n=>by
  rw[lvP]
  split
  · simp
  · have:=ztx a lv l (stL a lv q c) (n+zE c)
    simp;exact this
theorem zpq (s:ByteArray):(Go.Rx.z2i s).length≤s.size:=by
 have:=z5l s (s.size-0) 0 (zAj _)
 rw[Go.Rx.z2i,zA4];omega
theorem zqv {a:Au} {lv:List Bool}:∀ {W:List ByteArray} (b:ByteArray),(∀ w∈W,w.size≤1000)→zi7 a lv b W≤1000*W.length
 | [],_,_=>by simp[zi7]
 | w::W,b,h=>by
  have ih:=zqv (a:=a) (lv:=lv) (W:=W) w fun x hx=>h x (by simp[hx])
  have h1:=List.length_filter_le (zp2 b w) (lvP a lv 0 (Go.Rx.z2i w) 0)
  have h2:=ztx a lv (Go.Rx.z2i w) 0 0
  have h3:=zpq w
  have h4:=h w (by simp)
  rw[zi7,zAk];omega
theorem zw2 {b w:ByteArray} {e:Nat} (h:b.size<e):zp2 b w e=true:=by
 rw[zp2,zAo (by omega:¬ e≤b.size)];rfl
theorem y33 {b w:ByteArray} {e:Nat} (h:¬ b.size<e):zp2 b w e=!decide (b.extract 0 e=w.extract 0 e):=by
 rw[zp2,zAi (by omega:e≤b.size),Bool.true_and]
 congr 1
 rw[decide_eq_decide,← zgr,← zgr]
 exact⟨fun g=>zb4 g,fun g=>by rw[g]⟩
noncomputable def zyg (W:List ByteArray) (a:Au):Int:=if W.length=0∨(z5h a.F a.A).getD 0 false=false then 0 else ((1+zi7 a (z5h a.F a.A) ByteArray.empty W:Nat):Int)
end Go.Lx
