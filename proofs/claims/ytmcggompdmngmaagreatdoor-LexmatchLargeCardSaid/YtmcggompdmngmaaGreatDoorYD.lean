/- A part of the proof: LX1 to LX11. -/
import Derived.Test.YtmcggompdmngmaaGreatDoorYi
import Derived.Test.YtmcggompdmngmaaGreatDoorYc
import Derived.Test.YtmcggompdmngmaaGreatDoorYx
import Derived.Test.YtmcggompdmngmaaGreatDoorYy
set_option linter.all false
namespace Go.Lx
open Go Go.Rx Go.Ax
theorem zjh:∀ x:List Nat,lsN x x=false
 | []=>rfl
 | a::x=>by rw[lsN,zjh x,zAo (Nat.lt_irrefl a)];simp
theorem z9j:∀ {x y z:List Nat},lsN x y=true→lsN y z=true→lsN x z=true
 | [],[],_,h,_=>by simp[lsN] at h
 | _::_,[],_,h,_=>by simp[lsN] at h
 | [],b::y,[],_,h=>by simp[lsN] at h
 | [],b::y,c::z,_,_=>rfl
 | a::x,b::y,[],_,h=>by simp[lsN] at h
 | a::x,b::y,c::z,h,g=>by
  rw[lsN,zAu,zA7,zA3,zA3] at h g ⊢
  rcases h with h|⟨rfl,h⟩
  · rcases g with g|⟨rfl,g⟩
    · exact .inl (by omega)
    · exact .inl h
  · rcases g with g|⟨rfl,g⟩
    · exact .inl g
    · exact .inr ⟨rfl,z9j h g⟩
theorem y18:∀ x y:List Nat,lsN x y=true∨x=y∨lsN y x=true
 | [],[]=>.inr (.inl rfl)
 | [],_::_=>.inl rfl
 | _::_,[]=>.inr (.inr rfl)
 | a::x,b::y=>by
  simp only[lsN,zAu,zA7,zA3]
  rcases Nat.lt_trichotomy a b with h|rfl|h
  · exact .inl (.inl h)
  · rcases y18 x y with h|rfl|h
    · exact .inl (.inr ⟨rfl,h⟩)
    · exact .inr (.inl rfl)
    · exact .inr (.inr (.inr ⟨rfl,h⟩))
  · exact .inr (.inr (.inl h))
theorem y59 {x y:List Nat} (h:lsN x y=true):lsN y x=false:=by
 cases e:lsN y x with
 | false=>rfl
 | true=>have:=z9j h e;rw[zjh] at this;cases this
theorem y0k:∀ (p x:List Nat),lsN (p++x) p=false
 | [],x=>by cases x <;> rfl
 | a::p,x=>by rw[List.cons_append,lsN,y0k p x,zAo (Nat.lt_irrefl a)];simp
theorem y0x:∀ {p w x:List Nat},lsN w p=false→lsN w (p++x)=true∨w=p++x→p <+: w
 | [],w,x,_,_=>List.nil_prefix
 | a::p,[],x,h,_=>by simp[lsN] at h
 | a::p,b::w,x,h,g=>by
  simp only[lsN,Bool.or_eq_false_iff,Bool.and_eq_false_iff,zA5] at h
  rcases g with g|g
  · simp only[List.cons_append,lsN,zAu,zA7,zA3] at g
    rcases g with g|⟨rfl,g⟩
    · exact absurd g h.1
    · have h2:lsN w p=false:=by
       rcases h.2 with h2|h2
       · exact absurd rfl h2
       · exact h2
      exact List.cons_prefix_cons.2 ⟨rfl,y0x h2 (.inl g)⟩
  · rw[List.cons_append] at g
    cases g
    exact List.cons_prefix_cons.2 ⟨rfl,List.prefix_append _ _⟩
def ltS (a b:ByteArray):Bool:=lsN (btN a) (btN b)
theorem zdd (a b:ByteArray):Op.bytesLess a.toList b.toList=ltS a b:=by
 rw[y0s,ByteArray.toList_eq,ByteArray.toList_eq];rfl
theorem zse (a b:ByteArray):ltS a b=true∨a=b∨ltS b a=true:=by
 rcases y18 (btN a) (btN b) with h|h|h
 · exact .inl h
 · exact .inr (.inl (zgm h))
 · exact .inr (.inr h)
abbrev zbj (l:List ByteArray):Prop:=l.Pairwise fun a b=>ltS a b=true
theorem zlo:∀ {l m:List ByteArray},zbj l→zbj m→(∀ x,x∈l↔x∈m)→l=m
 | [],[],_,_,_=>rfl
 | [],y::m,_,_,h=>absurd ((h y).2 (by simp)) (by simp)
 | x::l,[],_,_,h=>absurd ((h x).1 (by simp)) (by simp)
 | x::l,y::m,hl,hm,h=>by
  obtain⟨h1,h2⟩:=List.pairwise_cons.1 hl
  obtain⟨g1,g2⟩:=List.pairwise_cons.1 hm
  have e:x=y:=by
   rcases zAc.1 ((h x).1 (by simp)) with e|e
   · exact e
   · rcases zAc.1 ((h y).2 (by simp)) with e2|e2
     · exact e2.symm
     · have a1:=g1 x e
       have a2:=h1 y e2
       rw[ltS] at a1 a2
       rw[y59 a1] at a2;cases a2
  subst e
  have hn:∀ {k:List ByteArray},(∀ a∈k,ltS x a=true)→x∉k:=fun hk hx=>by
   have:=hk x hx
   rw[ltS,zjh] at this;cases this
  rw[zlo h2 g2 fun z=>⟨fun hz=>by
   rcases zAc.1 ((h z).1 (List.mem_cons_of_mem _ hz)) with rfl|e
   · exact absurd hz (hn h1)
   · exact e,fun hz=>by
   rcases zAc.1 ((h z).2 (List.mem_cons_of_mem _ hz)) with rfl|e
   · exact absurd hz (hn g1)
   · exact e⟩]
def zo3 (w:ByteArray):List ByteArray→List ByteArray
 | []=>[w]
 | x::l=>if ltS x w=true then x::zo3 w l else if x=w then x::l else w::x::l
theorem z9f (w:ByteArray):∀ (l:List ByteArray) (z:ByteArray),z∈zo3 w l↔z=w∨z∈l
 | [],z=>by simp[zo3]
 | x::l,z=>by
  rw[zo3]
  split
  · rw[zAc,z9f w l z,zAc]
    constructor
    · exact zD120
    · exact zD120
  · split
    · rename_i h;subst h
      constructor
      · exact .inr
      · rintro(h|h)
        · rw[h];simp
        · exact h
    · rw[zAc]
theorem z90 (w:ByteArray):∀ {l:List ByteArray},zbj l→zbj (zo3 w l)
 | [],_=>by simp[zo3,zbj]
 | x::l,h=>by
  obtain⟨h1,h2⟩:=List.pairwise_cons.1 h
  rw[zo3]
  split
  · rename_i hx
    refine List.pairwise_cons.2 ⟨fun z hz=>?_,z90 w h2⟩
    rcases (z9f w l z).1 hz with rfl|hz
    · exact hx
    · exact h1 z hz
  · split
    · exact h
    · rename_i hx hne
      have hw:ltS w x=true:=by
       rcases zse x w with g|g|g
       · exact absurd g hx
       · exact absurd g hne
       · exact g
      refine List.pairwise_cons.2 ⟨fun z hz=>?_,h⟩
      rcases zAc.1 hz with rfl|hz
      · exact hw
      · exact z9j hw (h1 z hz)
def wds (v:List ByteArray):List ByteArray:=v.foldl (fun l w=>zo3 w l) []
theorem zh8:∀ (v l:List ByteArray),zbj l→zbj (v.foldl (fun l w=>zo3 w l) l)∧∀ z,z∈v.foldl (fun l w=>zo3 w l) l↔z∈l∨z∈v
 | [],l,h=>⟨h,fun z=>by simp⟩
 | w::v,l,h=>by
  obtain⟨h1,h2⟩:=zh8 v (zo3 w l) (z90 w h)
  refine⟨h1,fun z=>?_⟩
  rw[List.foldl_cons,h2 z,z9f,zAc]
  constructor
  · rintro((h|h)|h)
    · exact .inr (.inl h)
    · exact .inl h
    · exact .inr (.inr h)
  · rintro(h|h|h)
    · exact .inl (.inr h)
    · exact .inl (.inl h)
    · exact .inr h
theorem zav (v:List ByteArray):zbj (wds v):=(zh8 v [] List.Pairwise.nil).1
theorem z8o (v:List ByteArray) (z:ByteArray):z∈wds v↔z∈v:=by
 rw[wds,(zh8 v [] List.Pairwise.nil).2 z];simp
theorem y7e {v l:List ByteArray} (h:zbj l) (hm:∀ z,z∈l↔z∈v):l=wds v:=zlo h (zav v) fun z=>by rw[hm,z8o]
def zgn (p w:ByteArray):Bool:=(btN p).isPrefixOf (btN w)
theorem z9v {p w:ByteArray}:zgn p w=true↔btN p <+: btN w:=List.isPrefixOf_iff_prefix
theorem y4i {p a b:ByteArray} (h1:ltS a p=false) (h2:ltS a b=true∨a=b) (hb:zgn p b=true):zgn p a=true:=by
 obtain⟨x,hx⟩:=z9v.1 hb
 refine z9v.2 (y0x (x:=x) h1 ?_)
 rcases h2 with h|h
 · left;rw[hx];exact h
 · right;rw[hx,h]
theorem y6l {p w:ByteArray} (h:zgn p w=true):ltS w p=false:=by
 obtain⟨x,hx⟩:=z9v.1 h
 rw[ltS,← hx];exact y0k _ _
def zjo (f:Nat→Bool):Nat→Nat
 | 0=>0
 | n+1=>if f (zjo f n)=true∧zjo f n<n then zjo f n else if f n=true then n else n+1
theorem z4f (f:Nat→Bool):∀ n,zjo f n≤n∧(∀ i,i<zjo f n→f i=false)∧(zjo f n<n→f (zjo f n)=true)
 | 0=>⟨zAj _,fun i h=>absurd h (Nat.not_lt_zero _),fun h=>absurd h (Nat.not_lt_zero _)⟩
 | n+1=>by
  obtain⟨h1,h2,h3⟩:=z4f f n
  rw[zjo]
  by_cases hlt:zjo f n<n
  · rw[zAz ⟨h3 hlt,hlt⟩]
    exact⟨by omega,h2,fun _=>h3 hlt⟩
  · rw[zAy (fun h=>hlt h.2)]
    have e:zjo f n=n:=by omega
    rw[e] at h2
    by_cases hn:f n=true
    · rw[zAz hn]
      exact⟨by omega,h2,fun _=>hn⟩
    · rw[zAy hn]
      refine⟨zAj _,fun i hi=>?_,fun h=>absurd h (Nat.lt_irrefl _)⟩
      by_cases g:i=n
      · subst g;simpa using hn
      · exact h2 i (by omega)
theorem zpw {f:Nat→Bool} {n k:Nat} (hk:k≤n) (h1:∀ i,i<k→f i=false) (h2:k<n→f k=true):zjo f n=k:=by
 obtain⟨g1,g2,g3⟩:=z4f f n
 rcases Nat.lt_trichotomy (zjo f n) k with h|h|h
 · have a:=g3 (by omega)
   rw[h1 _ h] at a;cases a
 · exact h
 · have a:=h2 (by omega)
   rw[g2 _ h] at a;cases a
def wd (W:List ByteArray) (i:Nat):ByteArray:=W.getD i ByteArray.empty
theorem zii {W:List ByteArray} (h:zbj W) {i j:Nat} (hij:i<j) (hj:j<W.length):ltS (wd W i) (wd W j)=true:=by
 have e1:wd W i=W[i]:=by simp[wd,List.getD,show i<W.length by omega]
 have e2:wd W j=W[j]:=by simp[wd,List.getD,hj]
 rw[e1,e2]
 exact List.pairwise_iff_getElem.1 h i j (by omega) hj hij
def loS (W:List ByteArray) (p:ByteArray):Nat:=zjo (fun i=>!ltS (wd W i) p) W.length
def zjp (W:List ByteArray) (p:ByteArray):Nat:=zjo (fun k=>!zgn p (wd W (loS W p+k))) (W.length-loS W p)
def zq9 (W:List ByteArray) (p:ByteArray):Nat × Nat:=if zjp W p=0 then (0,0) else (loS W p,loS W p+zjp W p)
section
variable {W:List ByteArray} (h:zbj W) (p:ByteArray)
include h
theorem zm7 {i:Nat} (hi:i<loS W p):ltS (wd W i) p=true:=by
 have:=(z4f (fun i=>!ltS (wd W i) p) W.length).2.1 i hi
 simpa using this
theorem zmd {i:Nat} (hi:loS W p≤i) (hl:i<W.length):ltS (wd W i) p=false:=by
 obtain⟨g1,g2,g3⟩:=z4f (fun i=>!ltS (wd W i) p) W.length
 have h0:ltS (wd W (loS W p)) p=false:=by
  have:(!ltS (wd W (loS W p)) p)=true:=g3 (show loS W p<W.length by omega)
  simpa using this
 rcases Nat.lt_or_ge (loS W p) i with g|g
 · cases e:ltS (wd W i) p with
   | false=>rfl
   | true =>
    have:=z9j (zii h g hl) e
    rw[ltS] at h0
    rw[h0] at this;cases this
 · rw[show i=loS W p by omega];exact h0
theorem lo_le:loS W p≤W.length:=(z4f _ _).1
theorem zg6 {i:Nat} (hl:i<W.length):zgn p (wd W i)=true↔loS W p≤i∧i<loS W p+zjp W p:=by
 have hlo:=lo_le h p
 obtain⟨g1,g2,g3⟩:=z4f (fun k=>!zgn p (wd W (loS W p+k))) (W.length-loS W p)
 change zjp W p≤_ at g1
 constructor
 · intro hp
   have hge:loS W p≤i:=by
    rcases Nat.lt_or_ge i (loS W p) with g|g
    · have:=zm7 h p g
      rw[y6l hp] at this;cases this
    · exact g
   refine⟨hge,?_⟩
   rcases Nat.lt_or_ge i (loS W p+zjp W p) with g|g
   · exact g
   · have hc:zjp W p<W.length-loS W p:=by omega
     have hn:=g3 hc
     change (!zgn p (wd W (loS W p+zjp W p)))=true at hn
     have:zgn p (wd W (loS W p+zjp W p))=true:=by
      refine y4i (zmd h p (by omega) (by omega)) ?_ hp
      rcases Nat.lt_or_ge (loS W p+zjp W p) i with k|k
      · exact .inl (zii h k hl)
      · exact .inr (by rw[show loS W p+zjp W p=i by omega])
     rw[this] at hn;cases hn
 · rintro⟨h1,h2⟩
   have:=g2 (i-loS W p) (by show i-loS W p<zjp W p;omega)
   rw[show loS W p+(i-loS W p)=i by omega] at this
   simpa using this
theorem zz3 {n:Nat} (hn:n<W.length) (hp:zgn p (wd W n)=true):n<(zq9 W p).2∧(zq9 W p).2≤W.length∧∀ i,n≤i→i<(zq9 W p).2→zgn p (wd W i)=true:=by
 obtain⟨h1,h2⟩:=(zg6 h p hn).1 hp
 have hc:zjp W p≠0:=by omega
 have hle:=(z4f (fun k=>!zgn p (wd W (loS W p+k))) (W.length-loS W p)).1
 change zjp W p≤_ at hle
 have hlo:=lo_le h p
 rw[zq9,zAy hc]
 refine⟨h2,by simp only;omega,fun i hi h3=>?_⟩
 simp only at h3
 exact(zg6 h p (by omega)).2 ⟨by omega,h3⟩
end
def z5s (v:List ByteArray) (w:ByteArray):Nat:=v.countP fun x=>decide (x=w)
theorem zc0 (v:List ByteArray) (x w:ByteArray):z5s (v++[x]) w=z5s v w+if x=w then 1 else 0:=by
 rw[z5s,z5s,List.countP_append,List.countP_singleton]
 by_cases h:x=w <;> simp[h]
theorem zga {v:List ByteArray} {w:ByteArray} (h:w∉v):z5s v w=0:=by
 rw[z5s,List.countP_eq_zero]
 intro x hx
 simp only[zA3]
 rintro rfl
 exact h hx
theorem y0p (v:List ByteArray) (w:ByteArray):z5s v w≤v.length:=List.countP_le_length
theorem zx0 (v:List ByteArray) (x:ByteArray):wds (v++[x])=zo3 x (wds v):=by rw[wds,List.foldl_append];rfl
theorem zcw {W:List ByteArray} (h:zbj W):W.Nodup:=by
 refine List.Pairwise.imp (fun {a b} hab=>?_) h
 rintro rfl
 rw[ltS,zjh] at hab;cases hab
theorem z43 {W:List ByteArray} {i:Nat} (h:i<W.length):W[i]? =some (wd W i):=by
 rw[wd,List.getD,zA0 h];rfl
theorem z8i {W:List ByteArray} {i:Nat} (h:i<W.length):wd W i∈W:=zA2 (z43 h)
theorem zrv {W:List ByteArray} (h:zbj W) (x:ByteArray) {k:Nat} (hk:k≤W.length) (h1:∀ i,i<k→ltS (wd W i) x=true) (h2:k<W.length→ltS (wd W k) x=false):loS W x=k :=
 zpw hk (fun i hi=>by rw[h1 i hi];rfl) (fun hi=>by rw[h2 hi];rfl)
theorem ztq {W:List ByteArray} (h:zbj W) {x:ByteArray} (hx:x∈W):loS W x<W.length∧wd W (loS W x)=x:=by
 obtain⟨j,hj⟩:=zAw hx
 have hjl:=(zA1.1 hj).1
 have hw:wd W j=x:=by rw[z43 hjl] at hj;simpa using hj
 have e:loS W x=j:=zrv h x (by omega) (fun i hi=>by rw[← hw];exact zii h hi hjl) (fun _=>by rw[hw,ltS,zjh])
 rw[e];exact⟨hjl,hw⟩
theorem y9h {W:List ByteArray} (h:zbj W) (x:ByteArray):zo3 x W=if loS W x<W.length∧wd W (loS W x)=x then W else W.take (loS W x)++x::W.drop (loS W x):=by
 split
 · rename_i g
   refine zlo (z90 x h) h fun z=>?_
   rw[z9f]
   exact⟨fun q=>q.elim (fun e=>by rw[e,← g.2];exact z8i g.1) id,.inr⟩
 · rename_i g
   have hn:x∉W:=fun hx=>g (ztq h hx)
   refine zlo (z90 x h) ?_ fun z=>?_
   · refine List.pairwise_append.2 ⟨h.sublist (List.take_sublist _ _),List.pairwise_cons.2 ⟨fun z hz=>?_,h.sublist (List.drop_sublist _ _)⟩,fun a ha b hb=>?_⟩
     · obtain⟨j,hj⟩:=zAw hz
       rw[List.getElem?_drop] at hj
       have hjl:=(zA1.1 hj).1
       have hw:wd W (loS W x+j)=z:=by rw[z43 hjl] at hj;simpa using hj
       have:=zmd h x (Nat.le_add_right _ j) hjl
       rw[hw] at this
       rcases zse x z with e|e|e
       · exact e
       · subst e;exact absurd (hw▸z8i hjl) hn
       · rw[this] at e;cases e
     · obtain⟨i,hi⟩:=zAw ha
       rw[List.getElem?_take] at hi
       split at hi
       · rename_i hil
         have hl:=(zA1.1 hi).1
         have hw:wd W i=a:=by rw[z43 hl] at hi;simpa using hi
         have hax:ltS a x=true:=by rw[← hw];exact zm7 h x hil
         rcases zAc.1 hb with rfl|hb
         · exact hax
         · obtain⟨j,hj⟩:=zAw hb
           rw[List.getElem?_drop] at hj
           have hjl:=(zA1.1 hj).1
           have hw2:wd W (loS W x+j)=b:=by rw[z43 hjl] at hj;simpa using hj
           rw[← hw,← hw2]
           exact zii h (by omega) hjl
       · cases hi
   · rw[z9f,zAt,zAc]
     conv=>lhs;rw[← List.take_append_drop (loS W x) W,zAt]
     constructor
     · exact zD110
     · exact zD110
theorem zsf {W:List ByteArray} (hn:W.Nodup) (v:List ByteArray) {x:ByteArray} {k:Nat} (hk:W[k]? =some x):(W.map (z5s v)).set k (z5s v x+1)=W.map (z5s (v++[x])):=by
 apply List.ext_getElem?
 intro j
 rw[List.getElem?_set,zAd,zAd]
 have hkl:=(zA1.1 hk).1
 split
 · rename_i e;subst e
   rw[zA4,zAz hkl,hk]
   simp[zc0]
 · rename_i e
   cases hj:W[j]? with
   | none=>rfl
   | some y =>
    have:x≠y:=by
     rintro rfl
     exact e ((List.getElem?_inj hkl hn).1 (by rw[hk,hj]))
    simp[zc0,this]
theorem y4n (v W:List ByteArray) (x:ByteArray) (k:Nat) (hx:x∉v):(W.map (z5s v)).take k++0::(W.map (z5s v)).drop k=(W.take k++x::W.drop k).map (z5s v):=by
 rw[List.map_append,List.map_cons,zga hx,List.map_take,List.map_drop]
instance memB (x:ByteArray) (K:List ByteArray):Decidable (x∈K):=decidable_of_iff ((K.any fun y=>decide (y=x))=true) (by simp)
def zhg (K:List ByteArray) (x:ByteArray):List ByteArray:=if x∈K then K else K++[x]
def zk4 (v:List ByteArray):List ByteArray:=v.foldl zhg []
theorem zsc (v:List ByteArray) (x:ByteArray):zk4 (v++[x])=zhg (zk4 v) x:=by rw[zk4,List.foldl_append];rfl
theorem zwd (K:List ByteArray) (x z:ByteArray):z∈zhg K x↔z∈K∨z=x:=by
 rw[zhg];split
 · rename_i h;exact⟨.inl,fun q=>q.elim id fun e=>e▸h⟩
 · simp
theorem zpc {K:List ByteArray} (x:ByteArray) (h:K.Nodup):(zhg K x).Nodup:=by
 rw[zhg];split
 · exact h
 · rename_i g
   refine List.nodup_append.2 ⟨h,by simp,fun a ha b hb=>?_⟩
   simp at hb;subst hb
   rintro rfl;exact g ha
theorem za0:∀ (v K:List ByteArray),K.Nodup→(v.foldl zhg K).Nodup∧(∀ z,z∈v.foldl zhg K↔z∈K∨z∈v)∧(v.foldl zhg K).length≤K.length+v.length
 | [],K,h=>⟨h,fun z=>by simp,by simp⟩
 | x::v,K,h=>by
  obtain⟨h1,h2,h3⟩:=za0 v (zhg K x) (zpc x h)
  refine⟨h1,fun z=>?_,?_⟩
  · rw[List.foldl_cons,h2 z,zwd,zAc,or_assoc]
  · have:(zhg K x).length≤K.length+1:=by rw[zhg];split <;> simp
    rw[List.foldl_cons,zAk];omega
theorem zay (v:List ByteArray):(zk4 v).Nodup:=(za0 v [] List.nodup_nil).1
theorem zbx (v:List ByteArray) (z:ByteArray):z∈zk4 v↔z∈v:=by rw[zk4,(za0 v [] List.nodup_nil).2.1 z];simp
theorem zvx (v:List ByteArray):(zk4 v).length≤v.length:=by have:=(za0 v [] List.nodup_nil).2.2;simpa[zk4] using this
theorem z57 (v:List ByteArray):(wds v).length=(zk4 v).length:=by
 have h:(wds v).Perm (zk4 v):=(List.perm_ext_iff_of_nodup (zcw (zav v)) (zay v)).2 fun z=>by rw[z8o,zbx]
 exact h.length_eq
end Go.Lx
namespace Go.Wd
open Go.Ab
def nb (f:Nat→Bool):Nat→Nat
 | 0=>0
 | k+1=>2 ^ k*(if f k then 1 else 0)+nb f k
theorem zoj (f:Nat→Bool):∀ k,nb f k<2 ^ k
 | 0=>by simp[nb]
 | k+1=>by
  have:=zoj f k
  rw[nb,Nat.pow_succ]
  split <;> omega
theorem zew (f:Nat→Bool):∀ k i,(nb f k).testBit i=(decide (i<k)&&f i)
 | 0,i=>by simp[nb]
 | k+1,i=>by
  rw[nb,Nat.testBit_two_pow_mul_add _ (zoj f k)]
  by_cases h:i<k
  · rw[zAz h,zew f k i]
    simp[h,show i<k+1 by omega]
  · rw[zAy h]
    by_cases h2:i=k
    · subst h2
      rw[Nat.sub_self]
      cases hf:f i <;> simp
    · have:i-k≠0:=by omega
      obtain⟨j,hj⟩:∃ j,i-k=j+1:=⟨i-k-1,by omega⟩
      rw[hj,show decide (i<k+1)=false by simp;omega]
      cases f k <;> simp[Nat.testBit_succ]
theorem ztg {f:Nat→Bool} {k x:Nat} (hx:x<2 ^ k) (h:∀ i,i<k→x.testBit i=f i):x=nb f k:=by
 apply Nat.eq_of_testBit_eq
 intro i
 rw[zew]
 by_cases hi:i<k
 · simp[hi,h i hi]
 · simp only[hi,decide_false,Bool.false_and]
   exact Nat.testBit_lt_two_pow (zAx hx (Nat.pow_le_pow_right (by decide) (by omega)))
theorem zmz {f g:Nat→Bool} {k:Nat} (h:∀ i,i<k→f i=g i):nb f k=nb g k :=
 ztg (zoj f k) fun i hi=>by rw[zew];simp[hi,h i hi]
theorem ycg {x:Nat} (h:x<2 ^ 64):IntKind.u64.wrap (x:Int)=x:=zm9 (by omega) (by omega)
theorem ofn {x:Nat} (h:x<2 ^ 64):(BitVec.ofInt IntKind.u64.bits (x:Int)).toNat=x:=by
 show (BitVec.ofInt 64 (x:Int)).toNat=x
 rw[BitVec.toNat_ofInt];omega
theorem orN {x y:Nat} (hx:x<2 ^ 64) (hy:y<2 ^ 64):orV .u64 (x:Int) (y:Int)=((x ||| y:Nat):Int):=by
 rw[orV,BitVec.toNat_or,ofn hx,ofn hy,ycg (Nat.or_lt_two_pow hx hy)]
theorem yc5 {x:Nat} (hx:x<2 ^ 64):zbo .u64 (x:Int) 1=((x % 2:Nat):Int):=by
 have h1:=ofn (x:=1) (by decide)
 rw[zbo,BitVec.toNat_and,ofn hx]
 rw[show ((1:Int))=((1:Nat):Int) from rfl,h1,Nat.and_one_is_mod,ycg (by omega)]
theorem ybz {b:Nat} (hb:b<64):zeb .u64 1 (b:Int)=((2 ^ b:Nat):Int):=by
 have h3:2 ^ b<2 ^ 64:=Nat.pow_lt_pow_right (by decide) hb
 have h1:min (b:Int).toNat IntKind.u64.bits=b:=by
  show min (b:Int).toNat 64=b
  rw[zA9];omega
 rw[zeb,h1,show (1*2 ^ b:Int)=((2 ^ b:Nat):Int) by rw[Int.one_mul];exact(Int.natCast_pow 2 b).symm]
 exact ycg h3
theorem yd8 (x:Nat) {b:Nat} (hb:b<64):zpn .u64 (x:Int) (b:Int)=((x / 2 ^ b:Nat):Int):=by
 rw[zkf (by omega) (by show (b:Int).toNat≤64;omega),zA9,Int.natCast_ediv,Int.natCast_pow]
 rfl
attribute [local irreducible] nb
theorem y6h (f g:Nat→Bool):orV .u64 (nb f 64) (nb g 64)=(nb (fun i=>f i||g i) 64:Nat):=by
 have hf:=zoj f 64
 have hg:=zoj g 64
 rw[orN hf hg]
 congr 1
 refine ztg (Nat.or_lt_two_pow hf hg) fun i hi=>?_
 rw[Nat.testBit_or,zew,zew]
 simp[hi]
theorem y93 {b:Nat} (hb:b<64):zeb .u64 1 (b:Int)=(nb (fun i=>i == b) 64:Nat):=by
 rw[ybz hb]
 congr 1
 refine ztg (Nat.pow_lt_pow_right (by decide) hb) fun i hi=>?_
 rw[Nat.testBit_two_pow]
 by_cases h:b=i
 · simp[h]
 · simp[h,Ne.symm h]
theorem y8b (f:Nat→Bool) {b:Nat} (hb:b<64):decide (zbo .u64 (zpn .u64 (nb f 64:Nat) (b:Int)) 1=1)=f b:=by
 have hf:=zoj f 64
 have hb2:=zew f 64 b
 rw[Nat.testBit_eq_decide_div_mod_eq] at hb2
 simp only[hb,decide_true,Bool.true_and] at hb2
 generalize nb f 64=x at hf hb2 ⊢
 have hlt:x / 2 ^ b<2 ^ 64:=Nat.lt_of_le_of_lt (Nat.div_le_self _ _) hf
 rw[yd8 x hb,yc5 hlt,← hb2,decide_eq_decide]
 generalize x / 2 ^ b=y
 omega
def wN (p:Nat→Bool) (w:Nat):Nat:=nb (fun b=>p (64*w+b)) 64
abbrev u6 (x:Nat):List D:=[.lit (.int .u64 ((x:Nat):Int))]
def wl (n:Nat) (p:Nat→Bool):List Nat:=(List.range (n / 64+1)).map (wN p)
abbrev wds (n:Nat) (p:Nat→Bool):List (List D):=(wl n p).map u6
theorem zud (n:Nat) (p:Nat→Bool):(wl n p).length=n / 64+1:=by simp[wl]
theorem z57 (n:Nat) (p:Nat→Bool):(wds n p).length=n / 64+1:=by simp[wl]
theorem zb9 (n:Nat) (p:Nat→Bool) {w:Nat} (h:w<n / 64+1):(wl n p)[w]? =some (wN p w):=by
 rw[wl,zAd,List.getElem?_range h];rfl
theorem ybl (w:Nat):wN (fun _=>false) w=0:=by
 have h:∀ k,nb (fun _=>false) k=0:=fun k=>by induction k with
  | zero=>rw[nb]
  | succ k ih=>rw[nb,ih];simp
 exact h 64
def zho (p:Nat→Bool) (i:Nat):Nat→Bool:=fun j=>p j||j == i
def orP (p q:Nat→Bool):Nat→Bool:=fun j=>p j||q j
theorem y6q (p:Nat→Bool) (i:Nat):orV .u64 (wN p (i / 64):Nat) (zeb .u64 1 ((i % 64:Nat):Int))=(wN (zho p i) (i / 64):Nat):=by
 rw[y93 (Nat.mod_lt _ (by decide)),wN,y6h]
 congr 1
 refine zmz fun b hb=>?_
 simp only[zho]
 congr 1
 rw[Bool.eq_iff_iff]
 simp
 omega
theorem y49 (p:Nat→Bool) {i w:Nat} (h:w≠i / 64):wN (zho p i) w=wN p w:=by
 refine zmz fun b hb=>?_
 simp only[zho]
 have:(64*w+b == i)=false:=by simp;omega
 rw[this,Bool.or_false]
theorem zn6 {n:Nat} {l:List Nat} {p:Nat→Bool} (h1:l.length=n / 64+1) (h:∀ s,s<n / 64+1→l[s]? =some (wN p s)):l=wl n p:=by
 apply List.ext_getElem?
 intro s
 by_cases h2:s<n / 64+1
 · rw[h s h2,zb9 n p h2]
 · rw[zAv (by omega),zAv (by rw[zud];omega)]
theorem y7g (n:Nat) (p:Nat→Bool) {i:Nat} (h:i≤n):(wl n p).set (i / 64) (wN (zho p i) (i / 64))=wl n (zho p i):=by
 refine zn6 (by rw[List.length_set,zud]) fun s hs=>?_
 by_cases h2:i / 64=s
 · subst h2;rw[zAp (by rw[zud];omega)]
 · rw[List.getElem?_set_ne h2,zb9 _ _ hs,y49 p (Ne.symm h2)]
def wj (n:Nat) (p q:Nat→Bool) (k:Nat):List Nat:=(List.range (n / 64+1)).map fun w=>if w<k then wN (fun j=>p j||q j) w else wN p w
theorem zdb (n:Nat) (p q:Nat→Bool) (k:Nat):(wj n p q k).length=n / 64+1:=by simp[wj]
theorem zeo (n:Nat) (p q:Nat→Bool) (k:Nat) {w:Nat} (h:w<n / 64+1):(wj n p q k)[w]? =some (if w<k then wN (fun j=>p j||q j) w else wN p w):=by
 rw[wj,zAd,List.getElem?_range h];rfl
theorem zqi (n:Nat) (p q:Nat→Bool):wj n p q 0=wl n p:=zn6 (zdb n p q 0) fun s hs=>by rw[zeo _ _ _ _ hs,zAy (Nat.not_lt_zero _)]
theorem zzt (n:Nat) (p q:Nat→Bool):wj n p q (n / 64+1)=wl n (fun j=>p j||q j):=zn6 (zdb n p q _) fun s hs=>by rw[zeo _ _ _ _ hs,zAz hs]
theorem zt7 (n:Nat) (p q:Nat→Bool) {k:Nat} (hk:k<n / 64+1):(wj n p q k).set k (wN (fun j=>p j||q j) k)=wj n p q (k+1):=by
 apply List.ext_getElem?
 intro s
 by_cases h2:s<n / 64+1
 · rw[zeo _ _ _ _ h2]
   by_cases h:k=s
   · subst h;rw[zAp (by rw[zdb];omega),zAz (by omega)]
   · rw[List.getElem?_set_ne h,zeo _ _ _ _ h2]
     by_cases h3:s<k
     · rw[zAz h3,zAz (by omega)]
     · rw[zAy h3,zAy (by omega)]
 · rw[zAv (by rw[List.length_set,zdb];omega),zAv (by rw[zdb];omega)]
theorem y2c (p q:Nat→Bool) (w:Nat):orV .u64 (wN p w:Nat) (wN q w:Nat)=(wN (orP p q) w:Nat):=by rw[wN,wN,y6h];rfl
theorem y0u (p:Nat→Bool) (i:Nat):decide (zbo .u64 (zpn .u64 (wN p (i / 64):Nat) ((i % 64:Nat):Int)) 1=1)=p i:=by
 rw[wN,y8b _ (Nat.mod_lt _ (by decide)),Nat.div_add_mod]
abbrev Rl:=Nat→Nat→Bool
def rlX (n:Nat) (a:Rl):List (List (List D)):=(List.range (n+1)).map fun i=>wds n (a i)
theorem z1b (n:Nat) (a:Rl):(rlX n a).length=n+1:=by simp[rlX]
theorem z5r (n:Nat) (a:Rl) {i:Nat} (h:i≤n):(rlX n a)[i]? =some (wds n (a i)):=by
 rw[rlX,zAd,List.getElem?_range (by omega)];rfl
def znz (a:Rl) (i:Nat) (p:Nat→Bool):Rl:=fun i'=>if i'=i then p else a i'
theorem zdh (n:Nat) (a:Rl) (i:Nat) (p:Nat→Bool):(rlX n a).set i (wds n p)=rlX n (znz a i p):=by
 apply List.ext_getElem?
 intro s
 by_cases h:s<n+1
 · rw[z5r n _ (by omega:s≤n)]
   by_cases hs:i=s
   · subst hs
     rw[zAp (by rw[z1b];exact h),znz,zAz rfl]
   · rw[List.getElem?_set_ne hs,z5r n a (by omega),znz,zAy (Ne.symm hs)]
 · rw[zAv (by rw[List.length_set,z1b];omega),zAv (by rw[z1b];omega)]
end Go.Wd
namespace Go.Wd
open Go.Rx
abbrev ffR:Rl:=fun _ _=>false
def idR:Rl:=fun i j=>i == j
def orR (a b:Rl):Rl:=fun i j=>a i j||b i j
def zqe (a b:Rl) (i k:Nat):Nat→Bool:=fun j=>(List.range k).any fun k'=>a i k'&&b k' j
def zpl (n:Nat) (a b:Rl):Rl:=fun i=>zqe a b i (n+1)
def wf1 (S:Rl) (k i:Nat):Rl:=if S i k=true then znz S i (fun j=>S i j||S k j) else S
def wfI (k:Nat) (S:Rl):Nat→Rl
 | 0=>S
 | t+1=>wf1 (wfI k S t) k t
def wfO (n:Nat) (S:Rl):Nat→Rl
 | 0=>S
 | t+1=>wfI t (wfO n S t) (n+1)
def zv8 (n:Nat) (kid:Rl):Rl:=wfO n (orR idR kid) (n+1)
def zhh (n:Nat) (kid:Rl):Nat→Rl
 | 0=>idR
 | t+1=>zpl n (zhh n kid t) kid
def y03 (n:Nat) (kid:Rl) (m:Nat):Nat→Rl
 | 0=>orR ffR (zhh n kid m)
 | t+1=>orR (y03 n kid m t) (zhh n kid (m+t+1))
def yaj (n:Nat) (mn mx:Int) (kid:Rl):Rl:=if mx<0 then zpl n (zhh n kid mn.toNat) (zv8 n kid) else y03 n kid mn.toNat (mx-mn).toNat
def za2 (ok:Int→List (Int × Int)→Bool) (l:List Int) (rs:List (Int × Int)) (k:Nat):Rl:=fun i j=>decide (i<k)&&(match l[i]? with|some c=>ok c rs|none=>false)&&j == i+1
mutual
def zl1 (ok:Int→List (Int × Int)→Bool) (l:List Int):Rx→Rl
 | .mk op mn mx rs ks=>if op=1 then za2 ok l rs l.length else if op=2 then zwh ok l idR ks else if op=3 then zwv ok l ffR ks else yaj l.length mn mx (yah ok l ks)
def zwh (ok:Int→List (Int × Int)→Bool) (l:List Int):Rl→List Rx→Rl
 | acc,[]=>acc
 | acc,k::ks=>zwh ok l (zpl l.length acc (zl1 ok l k)) ks
def zwv (ok:Int→List (Int × Int)→Bool) (l:List Int):Rl→List Rx→Rl
 | acc,[]=>acc
 | acc,k::ks=>zwv ok l (orR acc (zl1 ok l k)) ks
def yah (ok:Int→List (Int × Int)→Bool) (l:List Int):List Rx→Rl
 | []=>ffR
 | k::_=>zl1 ok l k
end
def sg (l:List Int) (i j:Nat):List Int:=(l.drop i).take (j-i)
theorem zne {l:List Int} {i j:Nat} (h:i≤j) (hj:j≤l.length):(sg l i j).length=j-i:=by simp[sg];omega
theorem zrh {l:List Int} {i k j:Nat} (h1:i≤k) (h2:k≤j) (hj:j≤l.length):sg l i j=sg l i k++sg l k j:=by
 rw[sg,sg,sg]
 have e:l.drop k=(l.drop i).drop (k-i):=by rw[List.drop_drop];congr 1;omega
 rw[e,show j-i=(k-i)+(j-k) by omega,List.take_add]
theorem y0j {l:List Int} {i j:Nat} {u v:List Int} (h:i≤j) (hj:j≤l.length) (e:sg l i j=u++v):i+u.length≤j∧sg l i (i+u.length)=u∧sg l (i+u.length) j=v:=by
 have hl:=zne h hj
 rw[e,zAa] at hl
 have h1:i+u.length≤j:=by omega
 have h2:=zrh (l:=l) (i:=i) (k:=i+u.length) (j:=j) (by omega) h1 hj
 rw[e] at h2
 have h3:=List.append_inj h2 (by rw[zne (by omega) (by omega)];omega)
 exact⟨h1,h3.1.symm,h3.2.symm⟩
theorem y6j (l:List Int) (i:Nat):sg l i i=[]:=by simp[sg]
def Sy (l:List Int) (r:Rl) (P:Lan):Prop:=∀ i j,i≤l.length→j≤l.length→(r i j=true↔i≤j∧P (sg l i j))
theorem Sy.congr {l:List Int} {r:Rl} {P Q:Lan} (h:Sy l r P) (e:∀ w,P w↔Q w):Sy l r Q:=fun i j hi hj=>(h i j hi hj).trans (and_congr_right fun _=>e _)
theorem zxr (l:List Int):Sy l idR eps:=fun i j hi hj=>by
 simp only[idR,beq_iff_eq]
 constructor
 · rintro rfl;exact⟨zAj _,y6j l i⟩
 · rintro⟨h,e⟩
   have:=zne h hj
   rw[show sg l i j=[] from e] at this
   simp at this;omega
theorem ztn {l:List Int} {a b:Rl} {P Q:Lan} (h1:Sy l a P) (h2:Sy l b Q):Sy l (zpl l.length a b) (cat P Q):=fun i j hi hj=>by
 simp only[zpl,zqe,List.any_eq_true,List.mem_range,zA7]
 constructor
 · rintro⟨k,hk,ha,hb⟩
   obtain⟨g1,g2⟩:=(h1 i k hi (by omega)).1 ha
   obtain⟨g3,g4⟩:=(h2 k j (by omega) hj).1 hb
   exact⟨by omega,_,_,zrh g1 g3 hj,g2,g4⟩
 · rintro⟨h,u,v,e,hu,hv⟩
   obtain⟨g1,g2,g3⟩:=y0j h hj e
   exact⟨i+u.length,by omega,(h1 _ _ hi (by omega)).2 ⟨by omega,by rw[g2];exact hu⟩,(h2 _ _ (by omega) hj).2 ⟨g1,by rw[g3];exact hv⟩⟩
theorem y2a {l:List Int} {a b:Rl} {P Q:Lan} (h1:Sy l a P) (h2:Sy l b Q):Sy l (orR a b) (fun w=>P w∨Q w):=fun i j hi hj=>by
 rw[orR,zAu,h1 i j hi hj,h2 i j hi hj,← and_or_left]
theorem y90 (l:List Int):Sy l ffR (fun _=>False):=fun i j hi hj=>by simp
theorem y68 (ok:Int→List (Int × Int)→Bool) (l:List Int) (rs:List (Int × Int)):Sy l (za2 ok l rs l.length) (fun w=>∃ c,w=[c]∧ok c rs=true):=fun i j hi hj=>by
 simp only[za2,zA7,zA3,beq_iff_eq]
 constructor
 · rintro⟨⟨h1,h2⟩,rfl⟩
   have hg:l[i]? =some l[i]:=zA0 h1
   rw[hg] at h2
   refine⟨by omega,l[i],?_,h2⟩
   rw[sg,show i+1-i=1 by omega,List.drop_eq_getElem_cons h1];rfl
 · rintro⟨h,c,e,hc⟩
   have hl:=zne h hj
   rw[e] at hl
   simp at hl
   have h1:i<l.length:=by omega
   have hj2:j=i+1:=by omega
   subst hj2
   rw[sg,show i+1-i=1 by omega] at e
   refine⟨⟨h1,?_⟩,rfl⟩
   have hg:l[i]? =some c:=by
    have:=congrArg (fun x:List Int=>x[0]?) e
    simpa using this
   rw[hg];exact hc
theorem znu {l:List Int} {a:Rl} {P:Lan} (h:Sy l a P):∀ t,Sy l (zhh l.length a t) (pow P t)
 | 0=>zxr l
 | t+1=>(ztn (znu h t) h).congr fun w=>by
  rw[pow_add P t 1 w]
  exact z4z (fun _=>Iff.rfl) (fun w=>(pow_one P w).symm) w
theorem zzl {l:List Int} {a:Rl} {P:Lan} (h:Sy l a P) (m:Nat):∀ t,Sy l (y03 l.length a m t) (fun w=>∃ k,m≤k∧k≤m+t∧pow P k w)
 | 0=>(y2a (y90 l) (znu h m)).congr fun w=>by
  constructor
  · rintro(h|h)
    · exact h.elim
    · exact⟨m,zAj _,zAj _,h⟩
  · rintro⟨k,h1,h2,h3⟩
    obtain rfl:k=m:=by omega
    exact .inr h3
 | t+1=>(y2a (zzl h m t) (znu h (m+t+1))).congr fun w=>by
  constructor
  · rintro(⟨k,h1,h2,h3⟩|h)
    · exact⟨k,h1,by omega,h3⟩
    · exact⟨m+t+1,by omega,by omega,h⟩
  · rintro⟨k,h1,h2,h3⟩
    by_cases h4:k≤m+t
    · exact .inl ⟨k,h1,h4,h3⟩
    · obtain rfl:k=m+t+1:=by omega
      exact .inr h3
def Pt (S:Rl):Nat→Nat→Nat→Prop
 | 0,i,j=>S i j=true
 | t+1,i,j=>Pt S t i j∨(Pt S t i t∧Pt S t t j)
theorem Pt.comp {S:Rl}:∀ (t i k j:Nat),k<t→Pt S t i k→Pt S t k j→Pt S t i j
 | 0,i,k,j,h,_,_=>absurd h (Nat.not_lt_zero _)
 | t+1,i,k,j,h,h1,h2=>by
  by_cases hk:k<t
  · have c:=fun i j=>Pt.comp (S:=S) t i k j hk
    rcases h1 with h1|⟨a1,a2⟩ <;> rcases h2 with h2|⟨b1,b2⟩
    · exact .inl (c i j h1 h2)
    · exact .inr ⟨c i t h1 b1,b2⟩
    · exact .inr ⟨a1,c t j a2 h2⟩
    · exact .inr ⟨a1,b2⟩
  · obtain rfl:k=t:=by omega
    have e1:Pt S k i k:=by rcases h1 with h|h;exact h;exact h.1
    have e2:Pt S k k j:=by rcases h2 with h|h;exact h;exact h.2
    exact .inr ⟨e1,e2⟩
theorem Pt.mono {S:Rl} {i j:Nat} (h:S i j=true):∀ t,Pt S t i j
 | 0=>h
 | t+1=>.inl (Pt.mono h t)
theorem Pt.sound {S:Rl} {Q:Nat→Nat→Prop} {n:Nat} (h0:∀ i j,i≤n→j≤n→S i j=true→Q i j) (ht:∀ i k j,i≤n→k≤n→j≤n→Q i k→Q k j→Q i j):∀ t,t≤n+1→∀ i j,i≤n→j≤n→Pt S t i j→Q i j
 | 0,_,i,j,hi,hj,h=>h0 i j hi hj h
 | t+1,hle,i,j,hi,hj,h=>by
  rcases h with h|⟨h1,h2⟩
  · exact Pt.sound h0 ht t (by omega) i j hi hj h
  · exact ht i t j hi (by omega) hj (Pt.sound h0 ht t (by omega) i t hi (by omega) h1) (Pt.sound h0 ht t (by omega) t j (by omega) hj h2)
theorem z7r {S:Rl} {k:Nat} (hr:S k k=true):∀ t i j,(wfI k S t i j=true↔(S i j=true∨(i<t∧S i k=true∧S k j=true)))
 | 0,i,j=>by simp[wfI]
 | t+1,i,j=>by
  have hk:∀ j,wfI k S t k j=S k j:=fun j=>by
   rw[Bool.eq_iff_iff,z7r hr t k j]
   constructor
   · rintro(h|⟨_,_,h⟩) <;> exact h
   · exact .inl
  have hik:∀ i,wfI k S t i k=S i k:=fun i=>by
   rw[Bool.eq_iff_iff,z7r hr t i k]
   constructor
   · rintro(h|⟨_,h,_⟩) <;> exact h
   · exact .inl
  have ht:∀ j,wfI k S t t j=S t j:=fun j=>by
   rw[Bool.eq_iff_iff,z7r hr t t j]
   constructor
   · rintro(h|⟨h,_⟩)
     · exact h
     · exact absurd h (Nat.lt_irrefl _)
   · exact .inl
  rw[wfI,wf1,hik t]
  by_cases h:S t k=true
  · rw[zAz h]
    simp only[znz]
    by_cases hit:i=t
    · subst hit
      rw[zAz rfl,zAu,ht,hk]
      constructor
      · rintro(h1|h1)
        · exact .inl h1
        · exact .inr ⟨by omega,h,h1⟩
      · rintro(h1|⟨_,_,h1⟩)
        · exact .inl h1
        · exact .inr h1
    · rw[zAy hit,z7r hr t i j]
      constructor
      · exact zD87
      · exact zD87
  · rw[zAy h,z7r hr t i j]
    constructor
    · exact zD87
    · rintro(h1|⟨h1,h2,h3⟩)
      · exact .inl h1
      · refine .inr ⟨?_,h2,h3⟩
        have:i≠t:=fun e=>h (e▸h2)
        omega
theorem zo7 {n:Nat} {S:Rl} (hr:∀ i,S i i=true):∀ t,t≤n+1→∀ i j,i≤n→(wfO n S t i j=true↔Pt S t i j)
 | 0,_,i,j,_=>Iff.rfl
 | t+1,hle,i,j,hi=>by
  have ih:=zo7 (n:=n) hr t (by omega)
  rw[wfO,z7r ((ih t t (by omega)).2 (Pt.mono (hr t) t)),ih i j hi,ih i t hi,ih t j (by omega),Pt]
  constructor
  · rintro(h|⟨_,h⟩)
    · exact .inl h
    · exact .inr h
  · rintro(h|h)
    · exact .inl h
    · exact .inr ⟨by omega,h⟩
theorem y3l {l:List Int} {a:Rl} {P:Lan} (h:Sy l a P):Sy l (zv8 l.length a) (star P):=fun i j hi hj=>by
 have hr:∀ i,orR idR a i i=true:=fun i=>by simp[orR,idR]
 rw[zv8,zo7 hr _ (zAj _) i j hi]
 constructor
 · refine fun hp=>Pt.sound (Q:=fun i j=>i≤j∧star P (sg l i j)) (n:=l.length) (fun i j hi hj hs=>?_) (fun i k j hi hk hj h1 h2=>?_) _ (zAj _) i j hi hj hp
   · rw[orR,zAu] at hs
     rcases hs with hs|hs
     · obtain⟨g1,g2⟩:=(zxr l i j hi hj).1 hs
       exact⟨g1,0,g2⟩
     · obtain⟨g1,g2⟩:=(h i j hi hj).1 hs
       exact⟨g1,1,(pow_one P _).2 g2⟩
   · obtain⟨g1,x,g2⟩:=h1
     obtain⟨g3,y,g4⟩:=h2
     exact⟨by omega,x+y,(pow_add P x y _).2 ⟨_,_,zrh g1 g3 hj,g2,g4⟩⟩
 · rintro⟨hij,t,ht⟩
   induction t generalizing i with
   | zero =>
    refine Pt.mono ?_ _
    rw[orR,zAu]
    exact .inl ((zxr l i j hi hj).2 ⟨hij,ht⟩)
   | succ t ih =>
    obtain⟨u,v,e,hu,hv⟩:=ht
    obtain⟨g1,g2,g3⟩:=y0j hij hj e
    refine Pt.comp _ i (i+u.length) j (by omega) (Pt.mono ?_ _) (ih (i+u.length) (by omega) g1 (by rw[g3];exact hv))
    rw[orR,zAu]
    exact .inr ((h _ _ hi (by omega)).2 ⟨by omega,by rw[g2];exact hu⟩)
theorem y8l {l:List Int} {a:Rl} {P:Lan} (h:Sy l a P) {mn mx:Int} (h0:0≤mn) (h1:mx=-1∨mn≤mx):Sy l (yaj l.length mn mx a) (fun w=>∃ n:Nat,mn≤n∧(mx=-1∨(n:Int)≤mx)∧pow P n w):=by
 rw[yaj]
 by_cases hx:mx<0
 · rw[zAz hx]
   obtain rfl:mx=-1:=by omega
   refine(ztn (znu h mn.toNat) (y3l h)).congr fun w=>?_
   constructor
   · rintro⟨u,v,e,g1,t,g2⟩
     exact⟨mn.toNat+t,by omega,.inl rfl,(pow_add P _ _ _).2 ⟨u,v,e,g1,g2⟩⟩
   · rintro⟨n,g1,_,g2⟩
     obtain⟨t,rfl⟩:∃ t,n=mn.toNat+t:=⟨n-mn.toNat,by omega⟩
     obtain⟨u,v,e,g3,g4⟩:=(pow_add P _ _ _).1 g2
     exact⟨u,v,e,g3,t,g4⟩
 · rw[zAy hx]
   refine(zzl h mn.toNat (mx-mn).toNat).congr fun w=>?_
   constructor
   · rintro⟨k,g1,g2,g3⟩;exact⟨k,by omega,.inr (by omega),g3⟩
   · rintro⟨k,g1,g2,g3⟩;exact⟨k,by omega,by omega,g3⟩
theorem zqh (ok:Int→List (Int × Int)→Bool) (l:List Int):(∀ e:Rx,vns e=true→Sy l (zl1 ok l e) (L ok e)) ∧
 ∀ ks:List Rx,(∀ k∈ks,vns k=true)→(∀ acc P,Sy l acc P→Sy l (zwh ok l acc ks) (cat P (LC ok ks)))∧(∀ acc P,Sy l acc P→Sy l (zwv ok l acc ks) (fun w=>P w∨LU ok ks w))∧(ks≠[]→Sy l (yah ok l ks) (L1 ok ks)):=by
 refine Rx.ind (fun op mn mx rs ks ih hv=>?_) (fun _=>⟨fun acc P h=>?_,fun acc P h=>?_,fun h=>absurd rfl h⟩) (fun k ks hk ih hv=>?_)
 · rw[vns,zA7] at hv
   obtain⟨h1,h2⟩:=hv
   obtain⟨i1,i2,i3⟩:=ih (z3e h2)
   rw[zl1,L]
   by_cases o1:op=1
   · simp only[zAz o1];exact y68 ok l rs
   · simp only[zAy o1]
     by_cases o2:op=2
     · simp only[zAz o2]
       exact(i1 _ _ (zxr l)).congr fun w=>zhd _ w
     · simp only[zAy o2]
       by_cases o3:op=3
       · simp only[zAz o3]
         exact(i2 _ _ (y90 l)).congr fun w=>by simp
       · simp only[zAy o3]
         rw[vn,zAy o1,zAy o2,zAy o3] at h1
         by_cases o4:op=4
         · rw[zAz o4] at h1
           simp only[zA7,zAu,zA3] at h1
           obtain⟨⟨⟨⟨_,g1⟩,g2⟩,_⟩,g3⟩:=h1
           refine y8l (i3 fun e=>by rw[e] at g1;simp at g1) g2 ?_
           rcases g3 with g3|g3
           · exact .inl g3
           · exact .inr g3.1
         · rw[zAy o4] at h1;cases h1
 · rw[zwh,LC];exact h.congr fun w=>(zcd P w).symm
 · rw[zwv,LU];exact h.congr fun w=>by simp
 · have hv':∀ x∈ks,vns x=true:=fun x hx=>hv x (by simp[hx])
   obtain⟨i1,i2,i3⟩:=ih hv'
   have hk':=hk (hv k (by simp))
   refine⟨fun acc P h=>?_,fun acc P h=>?_,fun _=>?_⟩
   · rw[zwh,LC]
     exact(i1 _ _ (ztn h hk')).congr fun w=>z7o P _ _ w
   · rw[zwv,LU]
     exact(i2 _ _ (y2a h hk')).congr fun w=>or_assoc
   · rw[yah,L1];exact hk'
theorem zys (ok:Int→List (Int × Int)→Bool) (l:List Int) (e:Rx) (hv:vns e=true):zl1 ok l e 0 l.length=true↔L ok e l:=by
 rw[(zqh ok l).1 e hv 0 l.length (zAf _) (zAj _)]
 rw[show sg l 0 l.length=l by simp[sg]]
 exact⟨fun h=>h.2,fun h=>⟨zAf _,h⟩⟩
end Go.Wd
namespace Go.Lx
open Go Go.Rx Go.Ax
theorem zkd (u v:List Int):txN (u++v)=txN u++txN v:=by rw[txN,txN,txN,List.flatMap_append]
theorem zja:∀ {u v:List Int},(∀ c∈u,y9f c)→(∀ c∈v,y9f c)→txN u <+: txN v→u <+: v
 | [],v,_,_,_=>List.nil_prefix
 | a::u,[],hu,_,h=>by
  rw[zbu] at h
  have:=List.prefix_nil.1 h
  exact absurd (List.append_eq_nil_iff.1 this).1 (znt _)
 | a::u,b::v,hu,hv,h=>by
  rw[zbu,zbu] at h
  obtain⟨x,hx⟩:=h
  have da:=zj7 (z4s a) (txN u++x)
  have db:=zj7 (z4s b) (txN v)
  rw[zAl] at hx
  rw[hx,db] at da
  have e:zab b=zab a:=congrArg Prod.fst da
  have ha:=z6z (zc8.1 (hu a (by simp)))
  have hb:=z6z (zc8.1 (hv b (by simp)))
  have hab:a=b:=by rw[← ha,← hb,e]
  subst hab
  have:=List.append_cancel_left hx
  exact List.cons_prefix_cons.2 ⟨rfl,zja (fun c hc=>hu c (by simp[hc])) (fun c hc=>hv c (by simp[hc])) ⟨x,this⟩⟩
def stL (a:Au) (lv:List Bool) (q c:Int):Int:=if 0≤a.nx q c∧lv.getD (a.nx q c).toNat false=true then a.nx q c else -1
def zly (a:Au) (lv:List Bool):Int→List Int→Nat→Bool × Nat
 | q,[],_=>(a.fin q,0)
 | q,c::l,at_=>if stL a lv q c<0 then (false,at_+zE c) else zly a lv (stL a lv q c) l (at_+zE c)
theorem y6d (c:Int):1≤zE c:=(ztp (zab c)).1
section
variable {a:Au} {lv:List Bool} (hlv:∀ q:Nat,lv.getD q false=false→∀ w,a.acc (q:Nat) w=false)
include hlv
theorem y3e {q c:Int} (h:stL a lv q c<0) (w:List Int):a.acc (a.nx q c) w=false:=by
 rw[stL] at h
 by_cases h0:0≤a.nx q c
 · have hl:lv.getD (a.nx q c).toNat false=false:=by
    cases e:lv.getD (a.nx q c).toNat false with
    | false=>rfl
    | true=>rw[zAz ⟨h0,e⟩] at h;omega
   have:=hlv _ hl w
   rwa [Int.toNat_of_nonneg h0] at this
 · exact a.acc_neg w (by omega)
theorem y8v {q c:Int} (h:¬ stL a lv q c<0):stL a lv q c=a.nx q c:=by
 rw[stL] at h ⊢
 split
 · rfl
 · rename_i g;rw[zAy g] at h;omega
theorem zdg:∀ (l:List Int) (q:Int) (n:Nat),((zly a lv q l n).2=0→(zly a lv q l n).1=a.acc q l)∧(0<(zly a lv q l n).2→∃ u v,l=u++v∧u≠[]∧(zly a lv q l n).2=n+(txN u).length∧∀ z,a.acc q (u++z)=false)
 | [],q,n=>⟨fun _=>rfl,fun h=>absurd h (Nat.lt_irrefl _)⟩
 | c::l,q,n=>by
  rw[zly]
  have hz:=y6d c
  have ez:(txN [c]).length=zE c:=by simp[txN,zE]
  by_cases g:stL a lv q c<0
  · rw[zAz g]
    refine⟨fun h=>by simp only at h;omega,fun _=>⟨[c],l,rfl,by simp,by rw[ez],fun z=>?_⟩⟩
    exact y3e hlv g z
  · rw[zAy g]
    obtain⟨h1,h2⟩:=zdg l (stL a lv q c) (n+zE c)
    refine⟨fun h=>?_,fun h=>?_⟩
    · rw[h1 h,Au.acc_cons,y8v hlv g]
    · obtain⟨u,v,e1,e2,e3,e4⟩:=h2 h
      refine⟨c::u,v,by rw[e1];rfl,by simp,?_,fun z=>?_⟩
      · rw[e3,show c::u=[c]++u from rfl,zkd,zAa,ez];omega
      · rw[List.cons_append,Au.acc_cons,← y8v hlv g];exact e4 z
theorem zz6 {w w':ByteArray} (hw:zbi w=true) (hw':zbi w'=true) {d:Nat} (hd:(zly a lv 0 (Go.Rx.z2x w) 0).2=d) (h0:0<d) (hp:(btN w).take d <+: btN w'):a.acc 0 (Go.Rx.z2x w')=false:=by
 obtain⟨u,v,e1,_,e3,e4⟩:=(zdg hlv (Go.Rx.z2x w) 0 0).2 (by omega)
 rw[hd,Nat.zero_add] at e3
 have k1:btN w=txN (Go.Rx.z2x w):=by conv=>lhs;rw[zc1 hw,zaw]
 have k2:btN w'=txN (Go.Rx.z2x w'):=by conv=>lhs;rw[zc1 hw',zaw]
 rw[k1,k2,e1,zkd,e3,List.take_left] at hp
 have hs:=zad (s:=w)
 obtain⟨z,hz⟩:=zja (fun c hc=>hs c (by rw[e1];simp[hc])) zad hp
 rw[← hz];exact e4 z
end
def lvP (a:Au) (lv:List Bool):Int→List Int→Nat→List Nat
 | _,[],_=>[]
 | q,c::l,n=>if stL a lv q c<0 then [] else (n+zE c)::lvP a lv (stL a lv q c) l (n+zE c)
section
variable {a:Au} {lv:List Bool} (h1:∀ q:Nat,lv.getD q false=false→∀ w,a.acc (q:Nat) w=false) (h2:∀ q:Nat,lv.getD q false=true→∃ w,a.acc (q:Nat) w=true)
include h1 h2
end
def zv1 (b w:ByteArray) (e:Nat):Bool:=!(decide (e≤b.size)&&decide ((btN b).take e=(btN w).take e))
def zuv (a:Au) (lv:List Bool):ByteArray→List ByteArray→Nat
 | _,[]=>0
 | b,w::W=>((lvP a lv 0 (Go.Rx.z2x w) 0).filter (zv1 b w)).length+zuv a lv w W
theorem ybn {w:ByteArray} (h:zbi w=true):btN w=txN (Go.Rx.z2x w):=by conv=>lhs;rw[zc1 h,zaw]
def sel (f:Nat→Bool) (n:Nat):List Nat:=(List.range n).filter f
theorem z9h (f:Nat→Bool) (n:Nat):sel f (n+1)=sel f n++if f n=true then [n] else []:=by
 rw[sel,List.range_succ,List.filter_append]
 by_cases h:f n=true <;> simp[sel,h]
theorem zbs {f:Nat→Bool} {n:Nat}:∀ {m:Nat},n≤m→(∀ i,n≤i→i<m→f i=false)→sel f m=sel f n
 | 0,h,_=>by rw[show n=0 by omega]
 | m+1,h,hf=>by
  by_cases e:n=m+1
  · rw[e]
  · rw[z9h,zAy (by rw[hf m (by omega) (by omega)];decide),List.append_nil]
    exact zbs (by omega) fun i h1 h2=>hf i h1 (by omega)
theorem zfu (f:Nat→Bool) (n:Nat):(sel f n).length≤n:=by
 have:=List.length_filter_le f (List.range n)
 simpa[sel] using this
theorem zt3 {f:Nat→Bool} {n i:Nat}:i∈sel f n↔i<n∧f i=true:=by simp[sel]
def y5p:Option Int→Int→Bool
 | none,_=>false
 | some q,k=>decide (k≤q)
section
variable {a:Au} {lv:List Bool} (hlv:∀ q:Nat,lv.getD q false=false→∀ w,a.acc (q:Nat) w=false)
include hlv
end
end Go.Lx
namespace Go.Lx
open Go Go.Rx Go.Ax
def mkA (i:Nat) (s:List Bool × Bool) (x:Arc):List Bool × Bool:=if s.1.getD i false=false∧s.1.getD x.2.2.toNat false=true then (s.1.set i true,true) else s
def mkP:Nat→List (List Arc)→List Bool × Bool→List Bool × Bool
 | _,[],s=>s
 | i,l::A,s=>mkP (i+1) A (l.foldl (mkA i) s)
def mkM (A:List (List Arc)):Nat→List Bool→List Bool
 | 0,L=>L
 | n+1,L=>if (mkP 0 A (L,false)).2=true then mkM A n (mkP 0 A (L,false)).1 else (mkP 0 A (L,false)).1
structure MkS (F:List Bool) (A:List (List Arc)) (s s':List Bool × Bool):Prop where
 len:s'.1.length=s.1.length
 le:leB s.1 s'.1
 sound:(∀ q:Nat,s.1[q]? =some true→z5m F A q)→∀ q:Nat,s'.1[q]? =some true→z5m F A q
 flag:s'.2=false→s'=s
 grow:s'.2=true→s.2=true∨s'.1.count false<s.1.count false
 cnt:s'.1.count false≤s.1.count false
variable {F:List Bool} {A:List (List Arc)}
theorem MkS.refl (s:List Bool × Bool):MkS F A s s:=⟨rfl,zg7 _,id,fun _=>rfl,.inl,zAj _⟩
theorem MkS.trans {s s' s'':List Bool × Bool} (h:MkS F A s s') (g:MkS F A s' s''):MkS F A s s'':=by
 refine⟨g.len.trans h.len,z9p h.le g.le,fun x=>g.sound (h.sound x),fun x=>?_,fun x=>?_,Nat.le_trans g.cnt h.cnt⟩
 · have e:=g.flag x
   rw[e] at x ⊢
   exact h.flag x
 · rcases g.grow x with e|e
   · rcases h.grow e with k|k
     · exact .inl k
     · exact .inr (Nat.lt_of_le_of_lt g.cnt k)
   · exact .inr (zAx e h.cnt)
theorem getD_some {L:List Bool} {i:Nat} (h:i<L.length):L[i]? =some (L.getD i false):=by
 rw[List.getD,zA0 h];rfl
theorem zd8 {L:List Bool} {i:Nat} (h:L.getD i false=true):L[i]? =some true:=by
 rcases Nat.lt_or_ge i L.length with g|g
 · rw[getD_some g,h]
 · rw[List.getD,zAv g] at h;cases h
theorem y77 {i:Nat} {l:List Arc} {x:Arc} (hl:A[i]? =some l) (hx:x∈l) (s:List Bool × Bool) (hi:i<s.1.length):MkS F A s (mkA i s x):=by
 rw[mkA]
 split
 · rename_i h
   have hf:s.1[i]? =some false:=by rw[getD_some hi,h.1]
   refine⟨by simp,?_,fun hs q hq=>?_,fun h=>(by cases h),fun _=>.inr ?_,?_⟩
   · have:=zrl s.1 i true
     rwa [Bool.or_true] at this
   · by_cases e:i=q
     · subst e
       exact .arc i l x hl hx (hs _ (zd8 h.2))
     · rw[List.getElem?_set_ne e] at hq;exact hs q hq
   · have:=count_set hf;simp only;omega
   · have:=count_set hf;simp only;omega
 · exact .refl s
theorem zvq {i:Nat} {l:List Arc} (hl:A[i]? =some l):∀ (m:List Arc) (s:List Bool × Bool),(∀ x∈m,x∈l)→i<s.1.length→MkS F A s (m.foldl (mkA i) s)
 | [],s,_,_=>.refl s
 | x::m,s,h,hi=>by
  have h1:=y77 (F:=F) hl (h x (by simp)) s hi
  rw[List.foldl_cons]
  exact h1.trans (zvq hl m _ (fun y hy=>h y (by simp[hy])) (by rw[h1.len];exact hi))
theorem zvm:∀ (B:List (List Arc)) (i:Nat) (s:List Bool × Bool),(∀ (k:Nat) (l:List Arc),B[k]? =some l→A[i+k]? =some l)→i+B.length≤s.1.length→MkS F A s (mkP i B s)
 | [],i,s,_,_=>.refl s
 | l::B,i,s,h,hi=>by
  rw[zAk] at hi
  have h1:=zvq (F:=F) (h 0 l rfl) l s (fun _ hx=>hx) (by omega)
  rw[Nat.add_zero] at h1
  rw[mkP]
  exact h1.trans (zvm B (i+1) _ (fun k m hm=>by rw[show i+1+k=i+(k+1) by omega];exact h (k+1) m (by simpa using hm)) (by rw[h1.len];omega))
theorem zfj {F:List Bool} {i:Nat} {l:List Arc} (hl:A[i]? =some l):∀ (m:List Arc) (s:List Bool × Bool),(∀ x∈m,x∈l)→i<s.1.length→(m.foldl (mkA i) s).2=false→∀ x∈m,s.1.getD x.2.2.toNat false=true→s.1.getD i false=true
 | [],s,_,_,_,x,hx,_=>by cases hx
 | x::m,s,h,hi,hf,y,hy,hg=>by
  have h1:=y77 (F:=F) hl (h x (by simp)) s hi
  have h2:=zvq (F:=F) hl m (mkA i s x) (fun y hy=>h y (by simp[hy])) (by rw[h1.len];exact hi)
  rw[List.foldl_cons] at hf
  have e2:=h2.flag hf
  have hf1:(mkA i s x).2=false:=by rw[← e2];exact hf
  have e1:=h1.flag hf1
  rcases zAc.1 hy with rfl|hy
  · cases e:s.1.getD i false with
    | true=>rfl
    | false =>
     rw[mkA,zAz ⟨e,hg⟩] at hf1;cases hf1
  · rw[e1] at hf
    exact zfj (F:=F) hl m s (fun y hy=>h y (by simp[hy])) hi hf y hy hg
theorem zf7 {F:List Bool}:∀ (B:List (List Arc)) (i:Nat) (s:List Bool × Bool),(∀ (k:Nat) (l:List Arc),B[k]? =some l→A[i+k]? =some l)→i+B.length≤s.1.length→(mkP i B s).2=false→∀ (k:Nat) (l:List Arc),B[k]? =some l→∀ x∈l,s.1.getD x.2.2.toNat false=true→s.1.getD (i+k) false=true
 | [],i,s,_,_,_,k,l,hk,x,hx,_=>by simp at hk
 | l::B,i,s,h,hi,hf,k,m,hk,x,hx,hg=>by
  rw[zAk] at hi
  have hB:∀ (k:Nat) (m:List Arc),B[k]? =some m→A[i+1+k]? =some m:=fun k m hm=>by rw[show i+1+k=i+(k+1) by omega];exact h (k+1) m (by simpa using hm)
  have h1:=zvq (F:=F) (h 0 l rfl) l s (fun _ hx=>hx) (by omega)
  rw[Nat.add_zero] at h1
  have hle:i+1+B.length≤(l.foldl (mkA i) s).1.length:=by rw[h1.len];omega
  have h2:=zvm (F:=F) B (i+1) _ hB hle
  rw[mkP] at hf
  have e2:=h2.flag hf
  have hf1:(l.foldl (mkA i) s).2=false:=by rw[← e2];exact hf
  have e1:=h1.flag hf1
  cases k with
  | zero =>
   simp at hk;subst hk
   exact zfj (F:=F) (h 0 l rfl) l s (fun _ hx=>hx) (by omega) hf1 x hx hg
  | succ k =>
   rw[e1] at hf
   have:=zf7 (F:=F) B (i+1) s hB (by rw[e1] at hle;exact hle) hf k m (by simpa using hk) x hx hg
   rwa [show i+1+k=i+(k+1) by omega] at this
theorem znh (hAF:A.length=F.length):∀ (n:Nat) (L:List Bool),L.length=F.length→L.count false<n→(∀ q:Nat,L[q]? =some true→z5m F A q)→leB F L→mkM A n L=z6a F A
 | 0,L,_,h,_,_=>by omega
 | n+1,L,hl,hc,hs,hle=>by
  have hm:=zvm (F:=F) A 0 (L,false) (fun k l hk=>by rw[Nat.zero_add];exact hk) (by simp only;omega)
  rw[mkM]
  split
  · rename_i e
    refine znh hAF n _ (by rw[hm.len];exact hl) ?_ (hm.sound hs) (z9p hle hm.le)
    rcases hm.grow e with g|g
    · cases g
    · simp only at g;omega
  · rename_i e
    have e':(mkP 0 A (L,false)).2=false:=by simpa using e
    have hcl:=zf7 (F:=F) A 0 (L,false) (fun k l hk=>by rw[Nat.zero_add];exact hk) (by simp only;omega) e'
    have hst:=hm.flag e'
    rw[hst]
    refine zva hl fun q=>⟨hs q,fun hq=>?_⟩
    induction hq with
    | fin q h1 =>
     have:=y05 hle q (by rw[List.getD,h1];rfl)
     exact zd8 this
    | arc q l x h1 h2 h3 ih =>
     have:=hcl q l h1 x h2 (by simp only;rw[List.getD,ih];rfl)
     rw[Nat.zero_add] at this
     exact zd8 this
end Go.Lx
namespace Go.Lx
open Go Go.Rx Go.Ax
theorem zkz (w:ByteArray) (e:Nat):btN (w.extract 0 e)=(btN w).take e:=by
 simp[btN,ByteArray.data_extract,List.map_take]
section
variable {a:Au} {lv:List Bool} (h1:∀ q:Nat,lv.getD q false=false→∀ w,a.acc (q:Nat) w=false) (h2:∀ q:Nat,lv.getD q false=true→∃ w,a.acc (q:Nat) w=true)
include h1 h2
end
theorem ztt (a:Au) (lv:List Bool):∀ (l:List Int) (q:Int) (n:Nat),(lvP a lv q l n).length≤l.length
 | [],_,_=>by simp[lvP]
 | c::l,q,n=>by
  rw[lvP]
  split
  · simp
  · have:=ztt a lv l (stL a lv q c) (n+zE c)
    simp;exact this
theorem zfd (s:ByteArray):(Go.Rx.z2x s).length≤s.size:=by
 have:=zfn s (s.size-0) 0 (zAj _)
 rw[Go.Rx.z2x,zA4];omega
theorem zsr {a:Au} {lv:List Bool}:∀ {W:List ByteArray} (b:ByteArray),(∀ w∈W,w.size≤1000)→zuv a lv b W≤1000*W.length
 | [],_,_=>by simp[zuv]
 | w::W,b,h=>by
  have ih:=zsr (a:=a) (lv:=lv) (W:=W) w fun x hx=>h x (by simp[hx])
  have h1:=List.length_filter_le (zv1 b w) (lvP a lv 0 (Go.Rx.z2x w) 0)
  have h2:=ztt a lv (Go.Rx.z2x w) 0 0
  have h3:=zfd w
  have h4:=h w (by simp)
  rw[zuv,zAk];omega
theorem zyq {b w:ByteArray} {e:Nat} (h:b.size<e):zv1 b w e=true:=by
 rw[zv1,zAo (by omega:¬ e≤b.size)];rfl
theorem y48 {b w:ByteArray} {e:Nat} (h:¬ b.size<e):zv1 b w e=!decide (b.extract 0 e=w.extract 0 e):=by
 rw[zv1,zAi (by omega:e≤b.size),Bool.true_and]
 congr 1
 rw[decide_eq_decide,← zkz,← zkz]
 exact⟨fun g=>zgm g,fun g=>by rw[g]⟩
noncomputable def ya9 (W:List ByteArray) (a:Au):Int:=if W.length=0∨(z6a a.F a.A).getD 0 false=false then 0 else ((1+zuv a (z6a a.F a.A) ByteArray.empty W:Nat):Int)
abbrev ycp (l:List Int):Prop:=l.Pairwise (· <·)
theorem zr4 (f:Nat→Bool):∀ n,ycp ((sel f n).map fun (i:Nat)=>(i:Int))
 | 0=>List.Pairwise.nil
 | n+1=>by
  rw[z9h,List.map_append]
  refine List.pairwise_append.2 ⟨zr4 f n,?_,fun a ha b hb=>?_⟩
  · split <;> simp
  · split at hb
    · simp at hb;subst hb
      obtain⟨i,hi,rfl⟩:=List.mem_map.1 ha
      have:=(zt3.1 hi).1;omega
    · simp at hb
end Go.Lx
