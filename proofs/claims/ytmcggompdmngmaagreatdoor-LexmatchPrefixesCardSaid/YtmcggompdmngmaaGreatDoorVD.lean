/- A part of the proof: LX1 to LX13. -/
import Derived.Test.YtmcggompdmngmaaGreatDoorVi
import Derived.Test.YtmcggompdmngmaaGreatDoorVy
import Derived.Laws.Cover4
set_option linter.all false
namespace Go.Lx
open Go Go.Rx Go.Ax
theorem zid:∀ x:List Nat,lsN x x=false
 | []=>rfl
 | a::x=>by rw[lsN,zid x,zAo (Nat.lt_irrefl a)];simp
theorem z9l:∀ {x y z:List Nat},lsN x y=true→lsN y z=true→lsN x z=true
 | [],[],_,h,_=>by simp[lsN] at h
 | _::_,[],_,h,_=>by simp[lsN] at h
 | [],b::y,[],_,h=>by simp[lsN] at h
 | [],b::y,c::z,_,_=>rfl
 | a::x,b::y,[],_,h=>by simp[lsN] at h
 | a::x,b::y,c::z,h,g=>by
  rw[lsN,zAu,zA7,zA3,zA3] at h g ⊢
  rcases h with h|⟨rfl,h⟩
  · rcases g with g|⟨rfl,g⟩
    · exact .inl (by omega)
    · exact .inl h
  · rcases g with g|⟨rfl,g⟩
    · exact .inl g
    · exact .inr ⟨rfl,z9l h g⟩
theorem zxs:∀ x y:List Nat,lsN x y=true∨x=y∨lsN y x=true
 | [],[]=>.inr (.inl rfl)
 | [],_::_=>.inl rfl
 | _::_,[]=>.inr (.inr rfl)
 | a::x,b::y=>by
  simp only[lsN,zAu,zA7,zA3]
  rcases Nat.lt_trichotomy a b with h|rfl|h
  · exact .inl (.inl h)
  · rcases zxs x y with h|rfl|h
    · exact .inl (.inr ⟨rfl,h⟩)
    · exact .inr (.inl rfl)
    · exact .inr (.inr (.inr ⟨rfl,h⟩))
  · exact .inr (.inr (.inl h))
theorem y21 {x y:List Nat} (h:lsN x y=true):lsN y x=false:=by
 cases e:lsN y x with
 | false=>rfl
 | true=>have:=z9l h e;rw[zid] at this;cases this
theorem zyr:∀ (p x:List Nat),lsN (p++x) p=false
 | [],x=>by cases x <;> rfl
 | a::p,x=>by rw[List.cons_append,lsN,zyr p x,zAo (Nat.lt_irrefl a)];simp
theorem zyy:∀ {p w x:List Nat},lsN w p=false→lsN w (p++x)=true∨w=p++x→p <+: w
 | [],w,x,_,_=>List.nil_prefix
 | a::p,[],x,h,_=>by simp[lsN] at h
 | a::p,b::w,x,h,g=>by
  simp only[lsN,Bool.or_eq_false_iff,Bool.and_eq_false_iff,zA5] at h
  rcases g with g|g
  · simp only[List.cons_append,lsN,zAu,zA7,zA3] at g
    rcases g with g|⟨rfl,g⟩
    · exact absurd g h.1
    · have h2:lsN w p=false:=by
       rcases h.2 with h2|h2
       · exact absurd rfl h2
       · exact h2
      exact List.cons_prefix_cons.2 ⟨rfl,zyy h2 (.inl g)⟩
  · rw[List.cons_append] at g
    cases g
    exact List.cons_prefix_cons.2 ⟨rfl,List.prefix_append _ _⟩
def ltS (a b:ByteArray):Bool:=lsN (btN a) (btN b)
theorem zcl (a b:ByteArray):Op.bytesLess a.toList b.toList=ltS a b:=by
 rw[zyw,ByteArray.toList_eq,ByteArray.toList_eq];rfl
theorem zp2 (a b:ByteArray):ltS a b=true∨a=b∨ltS b a=true:=by
 rcases zxs (btN a) (btN b) with h|h|h
 · exact .inl h
 · exact .inr (.inl (zc6 h))
 · exact .inr (.inr h)
abbrev zbj (l:List ByteArray):Prop:=l.Pairwise fun a b=>ltS a b=true
theorem zmn:∀ {l m:List ByteArray},zbj l→zbj m→(∀ x,x∈l↔x∈m)→l=m
 | [],[],_,_,_=>rfl
 | [],y::m,_,_,h=>absurd ((h y).2 (by simp)) (by simp)
 | x::l,[],_,_,h=>absurd ((h x).1 (by simp)) (by simp)
 | x::l,y::m,hl,hm,h=>by
  obtain⟨h1,h2⟩:=List.pairwise_cons.1 hl
  obtain⟨g1,g2⟩:=List.pairwise_cons.1 hm
  have e:x=y:=by
   rcases zAc.1 ((h x).1 (by simp)) with e|e
   · exact e
   · rcases zAc.1 ((h y).2 (by simp)) with e2|e2
     · exact e2.symm
     · have a1:=g1 x e
       have a2:=h1 y e2
       rw[ltS] at a1 a2
       rw[y21 a1] at a2;cases a2
  subst e
  have hn:∀ {k:List ByteArray},(∀ a∈k,ltS x a=true)→x∉k:=fun hk hx=>by
   have:=hk x hx
   rw[ltS,zid] at this;cases this
  rw[zmn h2 g2 fun z=>⟨fun hz=>by
   rcases zAc.1 ((h z).1 (List.mem_cons_of_mem _ hz)) with rfl|e
   · exact absurd hz (hn h1)
   · exact e,fun hz=>by
   rcases zAc.1 ((h z).2 (List.mem_cons_of_mem _ hz)) with rfl|e
   · exact absurd hz (hn g1)
   · exact e⟩]
def zn8 (w:ByteArray):List ByteArray→List ByteArray
 | []=>[w]
 | x::l=>if ltS x w=true then x::zn8 w l else if x=w then x::l else w::x::l
theorem z97 (w:ByteArray):∀ (l:List ByteArray) (z:ByteArray),z∈zn8 w l↔z=w∨z∈l
 | [],z=>by simp[zn8]
 | x::l,z=>by
  rw[zn8]
  split
  · rw[zAc,z97 w l z,zAc]
    constructor
    · exact zD129
    · exact zD129
  · split
    · rename_i h;subst h
      constructor
      · exact .inr
      · rintro(h|h)
        · rw[h];simp
        · exact h
    · rw[zAc]
theorem z9b (w:ByteArray):∀ {l:List ByteArray},zbj l→zbj (zn8 w l)
 | [],_=>by simp[zn8,zbj]
 | x::l,h=>by
  obtain⟨h1,h2⟩:=List.pairwise_cons.1 h
  rw[zn8]
  split
  · rename_i hx
    refine List.pairwise_cons.2 ⟨fun z hz=>?_,z9b w h2⟩
    rcases (z97 w l z).1 hz with rfl|hz
    · exact hx
    · exact h1 z hz
  · split
    · exact h
    · rename_i hx hne
      have hw:ltS w x=true:=by
       rcases zp2 x w with g|g|g
       · exact absurd g hx
       · exact absurd g hne
       · exact g
      refine List.pairwise_cons.2 ⟨fun z hz=>?_,h⟩
      rcases zAc.1 hz with rfl|hz
      · exact hw
      · exact z9l hw (h1 z hz)
def wds (v:List ByteArray):List ByteArray:=v.foldl (fun l w=>zn8 w l) []
theorem zfh:∀ (v l:List ByteArray),zbj l→zbj (v.foldl (fun l w=>zn8 w l) l)∧∀ z,z∈v.foldl (fun l w=>zn8 w l) l↔z∈l∨z∈v
 | [],l,h=>⟨h,fun z=>by simp⟩
 | w::v,l,h=>by
  obtain⟨h1,h2⟩:=zfh v (zn8 w l) (z9b w h)
  refine⟨h1,fun z=>?_⟩
  rw[List.foldl_cons,h2 z,z97,zAc]
  constructor
  · rintro((h|h)|h)
    · exact .inr (.inl h)
    · exact .inl h
    · exact .inr (.inr h)
  · rintro(h|h|h)
    · exact .inl (.inr h)
    · exact .inl (.inl h)
    · exact .inr h
theorem zak (v:List ByteArray):zbj (wds v):=(zfh v [] List.Pairwise.nil).1
theorem z8r (v:List ByteArray) (z:ByteArray):z∈wds v↔z∈v:=by
 rw[wds,(zfh v [] List.Pairwise.nil).2 z];simp
theorem y3w {v l:List ByteArray} (h:zbj l) (hm:∀ z,z∈l↔z∈v):l=wds v:=zmn h (zak v) fun z=>by rw[hm,z8r]
def ze6 (p w:ByteArray):Bool:=(btN p).isPrefixOf (btN w)
theorem z7s {p w:ByteArray}:ze6 p w=true↔btN p <+: btN w:=List.isPrefixOf_iff_prefix
theorem y22 {p a b:ByteArray} (h1:ltS a p=false) (h2:ltS a b=true∨a=b) (hb:ze6 p b=true):ze6 p a=true:=by
 obtain⟨x,hx⟩:=z7s.1 hb
 refine z7s.2 (zyy (x:=x) h1 ?_)
 rcases h2 with h|h
 · left;rw[hx];exact h
 · right;rw[hx,h]
theorem y66 {p w:ByteArray} (h:ze6 p w=true):ltS w p=false:=by
 obtain⟨x,hx⟩:=z7s.1 h
 rw[ltS,← hx];exact zyr _ _
def ziq (f:Nat→Bool):Nat→Nat
 | 0=>0
 | n+1=>if f (ziq f n)=true∧ziq f n<n then ziq f n else if f n=true then n else n+1
theorem z3p (f:Nat→Bool):∀ n,ziq f n≤n∧(∀ i,i<ziq f n→f i=false)∧(ziq f n<n→f (ziq f n)=true)
 | 0=>⟨zAj _,fun i h=>absurd h (Nat.not_lt_zero _),fun h=>absurd h (Nat.not_lt_zero _)⟩
 | n+1=>by
  obtain⟨h1,h2,h3⟩:=z3p f n
  rw[ziq]
  by_cases hlt:ziq f n<n
  · rw[zAz ⟨h3 hlt,hlt⟩]
    exact⟨by omega,h2,fun _=>h3 hlt⟩
  · rw[zAy (fun h=>hlt h.2)]
    have e:ziq f n=n:=by omega
    rw[e] at h2
    by_cases hn:f n=true
    · rw[zAz hn]
      exact⟨by omega,h2,fun _=>hn⟩
    · rw[zAy hn]
      refine⟨zAj _,fun i hi=>?_,fun h=>absurd h (Nat.lt_irrefl _)⟩
      by_cases g:i=n
      · subst g;simpa using hn
      · exact h2 i (by omega)
theorem zqp {f:Nat→Bool} {n k:Nat} (hk:k≤n) (h1:∀ i,i<k→f i=false) (h2:k<n→f k=true):ziq f n=k:=by
 obtain⟨g1,g2,g3⟩:=z3p f n
 rcases Nat.lt_trichotomy (ziq f n) k with h|h|h
 · have a:=g3 (by omega)
   rw[h1 _ h] at a;cases a
 · exact h
 · have a:=h2 (by omega)
   rw[g2 _ h] at a;cases a
def wd (W:List ByteArray) (i:Nat):ByteArray:=W.getD i ByteArray.empty
theorem zho {W:List ByteArray} (h:zbj W) {i j:Nat} (hij:i<j) (hj:j<W.length):ltS (wd W i) (wd W j)=true:=by
 have e1:wd W i=W[i]:=by simp[wd,List.getD,show i<W.length by omega]
 have e2:wd W j=W[j]:=by simp[wd,List.getD,hj]
 rw[e1,e2]
 exact List.pairwise_iff_getElem.1 h i j (by omega) hj hij
def loS (W:List ByteArray) (p:ByteArray):Nat:=ziq (fun i=>!ltS (wd W i) p) W.length
def zdq (W:List ByteArray) (p:ByteArray):Nat:=ziq (fun k=>!ze6 p (wd W (loS W p+k))) (W.length-loS W p)
def zoh (W:List ByteArray) (p:ByteArray):Nat × Nat:=if zdq W p=0 then (0,0) else (loS W p,loS W p+zdq W p)
section
variable {W:List ByteArray} (h:zbj W) (p:ByteArray)
include h
theorem zma {i:Nat} (hi:i<loS W p):ltS (wd W i) p=true:=by
 have:=(z3p (fun i=>!ltS (wd W i) p) W.length).2.1 i hi
 simpa using this
theorem zm3 {i:Nat} (hi:loS W p≤i) (hl:i<W.length):ltS (wd W i) p=false:=by
 obtain⟨g1,g2,g3⟩:=z3p (fun i=>!ltS (wd W i) p) W.length
 have h0:ltS (wd W (loS W p)) p=false:=by
  have:(!ltS (wd W (loS W p)) p)=true:=g3 (show loS W p<W.length by omega)
  simpa using this
 rcases Nat.lt_or_ge (loS W p) i with g|g
 · cases e:ltS (wd W i) p with
   | false=>rfl
   | true =>
    have:=z9l (zho h g hl) e
    rw[ltS] at h0
    rw[h0] at this;cases this
 · rw[show i=loS W p by omega];exact h0
theorem lo_le:loS W p≤W.length:=(z3p _ _).1
theorem zcf {i:Nat} (hl:i<W.length):ze6 p (wd W i)=true↔loS W p≤i∧i<loS W p+zdq W p:=by
 have hlo:=lo_le h p
 obtain⟨g1,g2,g3⟩:=z3p (fun k=>!ze6 p (wd W (loS W p+k))) (W.length-loS W p)
 change zdq W p≤_ at g1
 constructor
 · intro hp
   have hge:loS W p≤i:=by
    rcases Nat.lt_or_ge i (loS W p) with g|g
    · have:=zma h p g
      rw[y66 hp] at this;cases this
    · exact g
   refine⟨hge,?_⟩
   rcases Nat.lt_or_ge i (loS W p+zdq W p) with g|g
   · exact g
   · have hc:zdq W p<W.length-loS W p:=by omega
     have hn:=g3 hc
     change (!ze6 p (wd W (loS W p+zdq W p)))=true at hn
     have:ze6 p (wd W (loS W p+zdq W p))=true:=by
      refine y22 (zm3 h p (by omega) (by omega)) ?_ hp
      rcases Nat.lt_or_ge (loS W p+zdq W p) i with k|k
      · exact .inl (zho h k hl)
      · exact .inr (by rw[show loS W p+zdq W p=i by omega])
     rw[this] at hn;cases hn
 · rintro⟨h1,h2⟩
   have:=g2 (i-loS W p) (by show i-loS W p<zdq W p;omega)
   rw[show loS W p+(i-loS W p)=i by omega] at this
   simpa using this
theorem zul {n:Nat} (hn:n<W.length) (hp:ze6 p (wd W n)=true):n<(zoh W p).2∧(zoh W p).2≤W.length∧∀ i,n≤i→i<(zoh W p).2→ze6 p (wd W i)=true:=by
 obtain⟨h1,h2⟩:=(zcf h p hn).1 hp
 have hc:zdq W p≠0:=by omega
 have hle:=(z3p (fun k=>!ze6 p (wd W (loS W p+k))) (W.length-loS W p)).1
 change zdq W p≤_ at hle
 have hlo:=lo_le h p
 rw[zoh,zAy hc]
 refine⟨h2,by simp only;omega,fun i hi h3=>?_⟩
 simp only at h3
 exact(zcf h p (by omega)).2 ⟨by omega,h3⟩
end
def z5u (v:List ByteArray) (w:ByteArray):Nat:=v.countP fun x=>decide (x=w)
theorem zbr (v:List ByteArray) (x w:ByteArray):z5u (v++[x]) w=z5u v w+if x=w then 1 else 0:=by
 rw[z5u,z5u,List.countP_append,List.countP_singleton]
 by_cases h:x=w <;> simp[h]
theorem zgs {v:List ByteArray} {w:ByteArray} (h:w∉v):z5u v w=0:=by
 rw[z5u,List.countP_eq_zero]
 intro x hx
 simp only[zA3]
 rintro rfl
 exact h hx
theorem zyq (v:List ByteArray) (w:ByteArray):z5u v w≤v.length:=List.countP_le_length
theorem zxc (v:List ByteArray) (x:ByteArray):wds (v++[x])=zn8 x (wds v):=by rw[wds,List.foldl_append];rfl
theorem zc0 {W:List ByteArray} (h:zbj W):W.Nodup:=by
 refine List.Pairwise.imp (fun {a b} hab=>?_) h
 rintro rfl
 rw[ltS,zid] at hab;cases hab
theorem z4l {W:List ByteArray} {i:Nat} (h:i<W.length):W[i]? =some (wd W i):=by
 rw[wd,List.getD,zA0 h];rfl
theorem z8f {W:List ByteArray} {i:Nat} (h:i<W.length):wd W i∈W:=zA2 (z4l h)
theorem zt5 {W:List ByteArray} (h:zbj W) (x:ByteArray) {k:Nat} (hk:k≤W.length) (h1:∀ i,i<k→ltS (wd W i) x=true) (h2:k<W.length→ltS (wd W k) x=false):loS W x=k :=
 zqp hk (fun i hi=>by rw[h1 i hi];rfl) (fun hi=>by rw[h2 hi];rfl)
theorem zrv {W:List ByteArray} (h:zbj W) {x:ByteArray} (hx:x∈W):loS W x<W.length∧wd W (loS W x)=x:=by
 obtain⟨j,hj⟩:=zAw hx
 have hjl:=(zA1.1 hj).1
 have hw:wd W j=x:=by rw[z4l hjl] at hj;simpa using hj
 have e:loS W x=j:=zt5 h x (by omega) (fun i hi=>by rw[← hw];exact zho h hi hjl) (fun _=>by rw[hw,ltS,zid])
 rw[e];exact⟨hjl,hw⟩
theorem y4i {W:List ByteArray} (h:zbj W) (x:ByteArray):zn8 x W=if loS W x<W.length∧wd W (loS W x)=x then W else W.take (loS W x)++x::W.drop (loS W x):=by
 split
 · rename_i g
   refine zmn (z9b x h) h fun z=>?_
   rw[z97]
   exact⟨fun q=>q.elim (fun e=>by rw[e,← g.2];exact z8f g.1) id,.inr⟩
 · rename_i g
   have hn:x∉W:=fun hx=>g (zrv h hx)
   refine zmn (z9b x h) ?_ fun z=>?_
   · refine List.pairwise_append.2 ⟨h.sublist (List.take_sublist _ _),List.pairwise_cons.2 ⟨fun z hz=>?_,h.sublist (List.drop_sublist _ _)⟩,fun a ha b hb=>?_⟩
     · obtain⟨j,hj⟩:=zAw hz
       rw[List.getElem?_drop] at hj
       have hjl:=(zA1.1 hj).1
       have hw:wd W (loS W x+j)=z:=by rw[z4l hjl] at hj;simpa using hj
       have:=zm3 h x (Nat.le_add_right _ j) hjl
       rw[hw] at this
       rcases zp2 x z with e|e|e
       · exact e
       · subst e;exact absurd (hw▸z8f hjl) hn
       · rw[this] at e;cases e
     · obtain⟨i,hi⟩:=zAw ha
       rw[List.getElem?_take] at hi
       split at hi
       · rename_i hil
         have hl:=(zA1.1 hi).1
         have hw:wd W i=a:=by rw[z4l hl] at hi;simpa using hi
         have hax:ltS a x=true:=by rw[← hw];exact zma h x hil
         rcases zAc.1 hb with rfl|hb
         · exact hax
         · obtain⟨j,hj⟩:=zAw hb
           rw[List.getElem?_drop] at hj
           have hjl:=(zA1.1 hj).1
           have hw2:wd W (loS W x+j)=b:=by rw[z4l hjl] at hj;simpa using hj
           rw[← hw,← hw2]
           exact zho h (by omega) hjl
       · cases hi
   · rw[z97,zAt,zAc]
     conv=>lhs;rw[← List.take_append_drop (loS W x) W,zAt]
     constructor
     · exact zD118
     · exact zD118
theorem zr1 {W:List ByteArray} (hn:W.Nodup) (v:List ByteArray) {x:ByteArray} {k:Nat} (hk:W[k]? =some x):(W.map (z5u v)).set k (z5u v x+1)=W.map (z5u (v++[x])):=by
 apply List.ext_getElem?
 intro j
 rw[List.getElem?_set,zAd,zAd]
 have hkl:=(zA1.1 hk).1
 split
 · rename_i e;subst e
   rw[zA4,zAz hkl,hk]
   simp[zbr]
 · rename_i e
   cases hj:W[j]? with
   | none=>rfl
   | some y =>
    have:x≠y:=by
     rintro rfl
     exact e ((List.getElem?_inj hkl hn).1 (by rw[hk,hj]))
    simp[zbr,this]
theorem zzu (v W:List ByteArray) (x:ByteArray) (k:Nat) (hx:x∉v):(W.map (z5u v)).take k++0::(W.map (z5u v)).drop k=(W.take k++x::W.drop k).map (z5u v):=by
 rw[List.map_append,List.map_cons,zgs hx,List.map_take,List.map_drop]
instance memB (x:ByteArray) (K:List ByteArray):Decidable (x∈K):=decidable_of_iff ((K.any fun y=>decide (y=x))=true) (by simp)
def zgw (K:List ByteArray) (x:ByteArray):List ByteArray:=if x∈K then K else K++[x]
def zjs (v:List ByteArray):List ByteArray:=v.foldl zgw []
theorem zt1 (v:List ByteArray) (x:ByteArray):zjs (v++[x])=zgw (zjs v) x:=by rw[zjs,List.foldl_append];rfl
theorem zws (K:List ByteArray) (x z:ByteArray):z∈zgw K x↔z∈K∨z=x:=by
 rw[zgw];split
 · rename_i h;exact⟨.inl,fun q=>q.elim id fun e=>e▸h⟩
 · simp
theorem znz {K:List ByteArray} (x:ByteArray) (h:K.Nodup):(zgw K x).Nodup:=by
 rw[zgw];split
 · exact h
 · rename_i g
   refine List.nodup_append.2 ⟨h,by simp,fun a ha b hb=>?_⟩
   simp at hb;subst hb
   rintro rfl;exact g ha
theorem z9s:∀ (v K:List ByteArray),K.Nodup→(v.foldl zgw K).Nodup∧(∀ z,z∈v.foldl zgw K↔z∈K∨z∈v)∧(v.foldl zgw K).length≤K.length+v.length
 | [],K,h=>⟨h,fun z=>by simp,by simp⟩
 | x::v,K,h=>by
  obtain⟨h1,h2,h3⟩:=z9s v (zgw K x) (znz x h)
  refine⟨h1,fun z=>?_,?_⟩
  · rw[List.foldl_cons,h2 z,zws,zAc,or_assoc]
  · have:(zgw K x).length≤K.length+1:=by rw[zgw];split <;> simp
    rw[List.foldl_cons,zAk];omega
theorem zar (v:List ByteArray):(zjs v).Nodup:=(z9s v [] List.nodup_nil).1
theorem zbl (v:List ByteArray) (z:ByteArray):z∈zjs v↔z∈v:=by rw[zjs,(z9s v [] List.nodup_nil).2.1 z];simp
theorem zty (v:List ByteArray):(zjs v).length≤v.length:=by have:=(z9s v [] List.nodup_nil).2.2;simpa[zjs] using this
theorem zsl (v:List ByteArray):(wds v).length=(zjs v).length:=by
 have h:(wds v).Perm (zjs v):=(List.perm_ext_iff_of_nodup (zc0 (zak v)) (zar v)).2 fun z=>by rw[z8r,zbl]
 exact h.length_eq
theorem zf7 (u v:List Int):txN (u++v)=txN u++txN v:=by rw[txN,txN,txN,List.flatMap_append]
theorem zct:∀ {u v:List Int},(∀ c∈u,y3k c)→(∀ c∈v,y3k c)→txN u <+: txN v→u <+: v
 | [],v,_,_,_=>List.nil_prefix
 | a::u,[],hu,_,h=>by
  rw[z9x] at h
  have:=List.prefix_nil.1 h
  exact absurd (List.append_eq_nil_iff.1 this).1 (zlk _)
 | a::u,b::v,hu,hv,h=>by
  rw[z9x,z9x] at h
  obtain⟨x,hx⟩:=h
  have da:=zhv (z4z a) (txN u++x)
  have db:=zhv (z4z b) (txN v)
  rw[zAl] at hx
  rw[hx,db] at da
  have e:zaz b=zaz a:=congrArg Prod.fst da
  have ha:=z7f (z9p.1 (hu a (by simp)))
  have hb:=z7f (z9p.1 (hv b (by simp)))
  have hab:a=b:=by rw[← ha,← hb,e]
  subst hab
  have:=List.append_cancel_left hx
  exact List.cons_prefix_cons.2 ⟨rfl,zct (fun c hc=>hu c (by simp[hc])) (fun c hc=>hv c (by simp[hc])) ⟨x,this⟩⟩
def stL (a:Au) (lv:List Bool) (q c:Int):Int:=if 0≤a.nx q c∧lv.getD (a.nx q c).toNat false=true then a.nx q c else -1
def zli (a:Au) (lv:List Bool):Int→List Int→Nat→Bool × Nat
 | q,[],_=>(a.fin q,0)
 | q,c::l,at_=>if stL a lv q c<0 then (false,at_+zE c) else zli a lv (stL a lv q c) l (at_+zE c)
theorem y56 (c:Int):1≤zE c:=(zr5 (zaz c)).1
section
variable {a:Au} {lv:List Bool} (hlv:∀ q:Nat,lv.getD q false=false→∀ w,a.acc (q:Nat) w=false)
include hlv
theorem y0z {q c:Int} (h:stL a lv q c<0) (w:List Int):a.acc (a.nx q c) w=false:=by
 rw[stL] at h
 by_cases h0:0≤a.nx q c
 · have hl:lv.getD (a.nx q c).toNat false=false:=by
    cases e:lv.getD (a.nx q c).toNat false with
    | false=>rfl
    | true=>rw[zAz ⟨h0,e⟩] at h;omega
   have:=hlv _ hl w
   rwa [Int.toNat_of_nonneg h0] at this
 · exact a.acc_neg w (by omega)
theorem y4s {q c:Int} (h:¬ stL a lv q c<0):stL a lv q c=a.nx q c:=by
 rw[stL] at h ⊢
 split
 · rfl
 · rename_i g;rw[zAy g] at h;omega
theorem zcw:∀ (l:List Int) (q:Int) (n:Nat),((zli a lv q l n).2=0→(zli a lv q l n).1=a.acc q l)∧(0<(zli a lv q l n).2→∃ u v,l=u++v∧u≠[]∧(zli a lv q l n).2=n+(txN u).length∧∀ z,a.acc q (u++z)=false)
 | [],q,n=>⟨fun _=>rfl,fun h=>absurd h (Nat.lt_irrefl _)⟩
 | c::l,q,n=>by
  rw[zli]
  have hz:=y56 c
  have ez:(txN [c]).length=zE c:=by simp[txN,zE]
  by_cases g:stL a lv q c<0
  · rw[zAz g]
    refine⟨fun h=>by simp only at h;omega,fun _=>⟨[c],l,rfl,by simp,by rw[ez],fun z=>?_⟩⟩
    exact y0z hlv g z
  · rw[zAy g]
    obtain⟨h1,h2⟩:=zcw l (stL a lv q c) (n+zE c)
    refine⟨fun h=>?_,fun h=>?_⟩
    · rw[h1 h,Au.acc_cons,y4s hlv g]
    · obtain⟨u,v,e1,e2,e3,e4⟩:=h2 h
      refine⟨c::u,v,by rw[e1];rfl,by simp,?_,fun z=>?_⟩
      · rw[e3,show c::u=[c]++u from rfl,zf7,zAa,ez];omega
      · rw[List.cons_append,Au.acc_cons,← y4s hlv g];exact e4 z
theorem zuh {w w':ByteArray} (hw:z71 w=true) (hw':z71 w'=true) {d:Nat} (hd:(zli a lv 0 (Go.Rx.z29 w) 0).2=d) (h0:0<d) (hp:(btN w).take d <+: btN w'):a.acc 0 (Go.Rx.z29 w')=false:=by
 obtain⟨u,v,e1,_,e3,e4⟩:=(zcw hlv (Go.Rx.z29 w) 0 0).2 (by omega)
 rw[hd,Nat.zero_add] at e3
 have k1:btN w=txN (Go.Rx.z29 w):=by conv=>lhs;rw[z9v hw,z8l]
 have k2:btN w'=txN (Go.Rx.z29 w'):=by conv=>lhs;rw[z9v hw',z8l]
 rw[k1,k2,e1,zf7,e3,List.take_left] at hp
 have hs:=z3w (s:=w)
 obtain⟨z,hz⟩:=zct (fun c hc=>hs c (by rw[e1];simp[hc])) z3w hp
 rw[← hz];exact e4 z
end
def lvP (a:Au) (lv:List Bool):Int→List Int→Nat→List Nat
 | _,[],_=>[]
 | q,c::l,n=>if stL a lv q c<0 then [] else (n+zE c)::lvP a lv (stL a lv q c) l (n+zE c)
section
variable {a:Au} {lv:List Bool} (h1:∀ q:Nat,lv.getD q false=false→∀ w,a.acc (q:Nat) w=false) (h2:∀ q:Nat,lv.getD q false=true→∃ w,a.acc (q:Nat) w=true)
include h1 h2
end
def ztn (b w:ByteArray) (e:Nat):Bool:=!(decide (e≤b.size)&&decide ((btN b).take e=(btN w).take e))
def ztm (a:Au) (lv:List Bool):ByteArray→List ByteArray→Nat
 | _,[]=>0
 | b,w::W=>((lvP a lv 0 (Go.Rx.z29 w) 0).filter (ztn b w)).length+ztm a lv w W
theorem y05 {w:ByteArray} (h:z71 w=true):btN w=txN (Go.Rx.z29 w):=by conv=>lhs;rw[z9v h,z8l]
def sel (f:Nat→Bool) (n:Nat):List Nat:=(List.range n).filter f
theorem zby (f:Nat→Bool) (n:Nat):sel f (n+1)=sel f n++if f n=true then [n] else []:=by
 rw[sel,List.range_succ,List.filter_append]
 by_cases h:f n=true <;> simp[sel,h]
theorem z81 {f:Nat→Bool} {n:Nat}:∀ {m:Nat},n≤m→(∀ i,n≤i→i<m→f i=false)→sel f m=sel f n
 | 0,h,_=>by rw[show n=0 by omega]
 | m+1,h,hf=>by
  by_cases e:n=m+1
  · rw[e]
  · rw[zby,zAy (by rw[hf m (by omega) (by omega)];decide),List.append_nil]
    exact z81 (by omega) fun i h1 h2=>hf i h1 (by omega)
theorem zru (f:Nat→Bool) (n:Nat):(sel f n).length≤n:=by
 have:=List.length_filter_le f (List.range n)
 simpa[sel] using this
def zo3:Option Int→Int→Bool
 | none,_=>false
 | some q,k=>decide (k≤q)
def y2p (o:List (Int × Int)) (k:Int):List (Int × Int) :=
 match o.getLast? with
 | some p=>if p.2=k then o.set (o.length-1) (p.1,p.2+1) else o++[(k,k+1)]
 | none=>o++[(k,k+1)]
def zk6:Option Int→List (Int × Int)→List Int→List (Int × Int) × Int
 | _,o,[]=>(o,0)
 | p,o,k::l=>if k<0∨2147483646<k then ([],8) else if zo3 p k=true then ([],6) else zk6 (some k) (y2p o k) l
theorem zm7:∀ (c:Nat) (b e:Int),0≤e→e+c≤2147483647→zk6 (some (e-1)) [(b,e)] ((List.range c).map fun (i:Nat)=>e+(i:Int))=([(b,e+c)],0)
 | 0,b,e,_,_=>by simp[zk6]
 | c+1,b,e,h0,h1=>by
  have ih:=zm7 c b (e+1) (by omega) (by push_cast at h1;omega)
  rw[List.range_succ_eq_map,List.map_cons,List.map_map,show e+((0:Nat):Int)=e by simp,zk6,zAy (by push_cast at h1;omega),zAy (by simp[zo3];omega),y2p]
  simp only[List.getLast?_singleton,zAn,Nat.sub_self,List.set_cons_zero,if_true]
  rw[show some e=some (e+1-1) by simp]
  have e1:(List.map ((fun (i:Nat)=>e+(i:Int)) ∘ Nat.succ) (List.range c))=(List.range c).map fun (i:Nat)=>e+1+(i:Int):=by
   refine List.map_congr_left fun i _=>?_
   simp only[Function.comp,Nat.succ_eq_add_one];push_cast;omega
  rw[e1,ih]
  simp;omega
theorem zsg (lo c:Nat) (h:lo+c≤2147483647):zk6 none [] ((List.range c).map fun (i:Nat)=>((lo+i:Nat):Int))=(if c=0 then [] else [((lo:Int),((lo+c:Nat):Int))],0):=by
 cases c with
 | zero=>simp[zk6]
 | succ c =>
  rw[zAy (by omega),List.range_succ_eq_map,List.map_cons,List.map_map,zk6,zAy (by simp;omega),zAy (by simp[zo3]),y2p]
  simp only[List.getLast?_nil,List.nil_append]
  have ih:=zm7 c (lo:Int) ((lo:Int)+1) (by omega) (by omega)
  have e1:(List.map ((fun (i:Nat)=>((lo+i:Nat):Int)) ∘ Nat.succ) (List.range c))=(List.range c).map fun (i:Nat)=>(lo:Int)+1+(i:Int):=by
   refine List.map_congr_left fun i _=>?_
   simp only[Function.comp,Nat.succ_eq_add_one];push_cast;omega
  rw[e1]
  rw[show ((lo+0:Nat):Int)=(lo:Int)+1-1 by omega,show ((lo:Int)+1-1+1)=(lo:Int)+1 by omega]
  rw[show ((lo:Int)+1-1,(lo:Int)+1)=((lo:Int),(lo:Int)+1) by simp,ih]
  simp;omega
section
variable {a:Au} {lv:List Bool} (hlv:∀ q:Nat,lv.getD q false=false→∀ w,a.acc (q:Nat) w=false)
include hlv
end
end Go.Lx
namespace Go.Lx
open Go Go.Rx Go.Ax
def mkA (i:Nat) (s:List Bool × Bool) (x:Arc):List Bool × Bool:=if s.1.getD i false=false∧s.1.getD x.2.2.toNat false=true then (s.1.set i true,true) else s
def mkP:Nat→List (List Arc)→List Bool × Bool→List Bool × Bool
 | _,[],s=>s
 | i,l::A,s=>mkP (i+1) A (l.foldl (mkA i) s)
def mkM (A:List (List Arc)):Nat→List Bool→List Bool
 | 0,L=>L
 | n+1,L=>if (mkP 0 A (L,false)).2=true then mkM A n (mkP 0 A (L,false)).1 else (mkP 0 A (L,false)).1
structure MkS (F:List Bool) (A:List (List Arc)) (s s':List Bool × Bool):Prop where
 len:s'.1.length=s.1.length
 le:leB s.1 s'.1
 sound:(∀ q:Nat,s.1[q]? =some true→z5p F A q)→∀ q:Nat,s'.1[q]? =some true→z5p F A q
 flag:s'.2=false→s'=s
 grow:s'.2=true→s.2=true∨s'.1.count false<s.1.count false
 cnt:s'.1.count false≤s.1.count false
variable {F:List Bool} {A:List (List Arc)}
theorem MkS.refl (s:List Bool × Bool):MkS F A s s:=⟨rfl,zgt _,id,fun _=>rfl,.inl,zAj _⟩
theorem MkS.trans {s s' s'':List Bool × Bool} (h:MkS F A s s') (g:MkS F A s' s''):MkS F A s s'':=by
 refine⟨g.len.trans h.len,za1 h.le g.le,fun x=>g.sound (h.sound x),fun x=>?_,fun x=>?_,Nat.le_trans g.cnt h.cnt⟩
 · have e:=g.flag x
   rw[e] at x ⊢
   exact h.flag x
 · rcases g.grow x with e|e
   · rcases h.grow e with k|k
     · exact .inl k
     · exact .inr (Nat.lt_of_le_of_lt g.cnt k)
   · exact .inr (zAx e h.cnt)
theorem getD_some {L:List Bool} {i:Nat} (h:i<L.length):L[i]? =some (L.getD i false):=by
 rw[List.getD,zA0 h];rfl
theorem zc5 {L:List Bool} {i:Nat} (h:L.getD i false=true):L[i]? =some true:=by
 rcases Nat.lt_or_ge i L.length with g|g
 · rw[getD_some g,h]
 · rw[List.getD,zAv g] at h;cases h
theorem y4b {i:Nat} {l:List Arc} {x:Arc} (hl:A[i]? =some l) (hx:x∈l) (s:List Bool × Bool) (hi:i<s.1.length):MkS F A s (mkA i s x):=by
 rw[mkA]
 split
 · rename_i h
   have hf:s.1[i]? =some false:=by rw[getD_some hi,h.1]
   refine⟨by simp,?_,fun hs q hq=>?_,fun h=>(by cases h),fun _=>.inr ?_,?_⟩
   · have:=zor s.1 i true
     rwa [Bool.or_true] at this
   · by_cases e:i=q
     · subst e
       exact .arc i l x hl hx (hs _ (zc5 h.2))
     · rw[List.getElem?_set_ne e] at hq;exact hs q hq
   · have:=count_set hf;simp only;omega
   · have:=count_set hf;simp only;omega
 · exact .refl s
theorem zuj {i:Nat} {l:List Arc} (hl:A[i]? =some l):∀ (m:List Arc) (s:List Bool × Bool),(∀ x∈m,x∈l)→i<s.1.length→MkS F A s (m.foldl (mkA i) s)
 | [],s,_,_=>.refl s
 | x::m,s,h,hi=>by
  have h1:=y4b (F:=F) hl (h x (by simp)) s hi
  rw[List.foldl_cons]
  exact h1.trans (zuj hl m _ (fun y hy=>h y (by simp[hy])) (by rw[h1.len];exact hi))
theorem zv5:∀ (B:List (List Arc)) (i:Nat) (s:List Bool × Bool),(∀ (k:Nat) (l:List Arc),B[k]? =some l→A[i+k]? =some l)→i+B.length≤s.1.length→MkS F A s (mkP i B s)
 | [],i,s,_,_=>.refl s
 | l::B,i,s,h,hi=>by
  rw[zAk] at hi
  have h1:=zuj (F:=F) (h 0 l rfl) l s (fun _ hx=>hx) (by omega)
  rw[Nat.add_zero] at h1
  rw[mkP]
  exact h1.trans (zv5 B (i+1) _ (fun k m hm=>by rw[show i+1+k=i+(k+1) by omega];exact h (k+1) m (by simpa using hm)) (by rw[h1.len];omega))
theorem zev {F:List Bool} {i:Nat} {l:List Arc} (hl:A[i]? =some l):∀ (m:List Arc) (s:List Bool × Bool),(∀ x∈m,x∈l)→i<s.1.length→(m.foldl (mkA i) s).2=false→∀ x∈m,s.1.getD x.2.2.toNat false=true→s.1.getD i false=true
 | [],s,_,_,_,x,hx,_=>by cases hx
 | x::m,s,h,hi,hf,y,hy,hg=>by
  have h1:=y4b (F:=F) hl (h x (by simp)) s hi
  have h2:=zuj (F:=F) hl m (mkA i s x) (fun y hy=>h y (by simp[hy])) (by rw[h1.len];exact hi)
  rw[List.foldl_cons] at hf
  have e2:=h2.flag hf
  have hf1:(mkA i s x).2=false:=by rw[← e2];exact hf
  have e1:=h1.flag hf1
  rcases zAc.1 hy with rfl|hy
  · cases e:s.1.getD i false with
    | true=>rfl
    | false =>
     rw[mkA,zAz ⟨e,hg⟩] at hf1;cases hf1
  · rw[e1] at hf
    exact zev (F:=F) hl m s (fun y hy=>h y (by simp[hy])) hi hf y hy hg
theorem zej {F:List Bool}:∀ (B:List (List Arc)) (i:Nat) (s:List Bool × Bool),(∀ (k:Nat) (l:List Arc),B[k]? =some l→A[i+k]? =some l)→i+B.length≤s.1.length→(mkP i B s).2=false→∀ (k:Nat) (l:List Arc),B[k]? =some l→∀ x∈l,s.1.getD x.2.2.toNat false=true→s.1.getD (i+k) false=true
 | [],i,s,_,_,_,k,l,hk,x,hx,_=>by simp at hk
 | l::B,i,s,h,hi,hf,k,m,hk,x,hx,hg=>by
  rw[zAk] at hi
  have hB:∀ (k:Nat) (m:List Arc),B[k]? =some m→A[i+1+k]? =some m:=fun k m hm=>by rw[show i+1+k=i+(k+1) by omega];exact h (k+1) m (by simpa using hm)
  have h1:=zuj (F:=F) (h 0 l rfl) l s (fun _ hx=>hx) (by omega)
  rw[Nat.add_zero] at h1
  have hle:i+1+B.length≤(l.foldl (mkA i) s).1.length:=by rw[h1.len];omega
  have h2:=zv5 (F:=F) B (i+1) _ hB hle
  rw[mkP] at hf
  have e2:=h2.flag hf
  have hf1:(l.foldl (mkA i) s).2=false:=by rw[← e2];exact hf
  have e1:=h1.flag hf1
  cases k with
  | zero =>
   simp at hk;subst hk
   exact zev (F:=F) (h 0 l rfl) l s (fun _ hx=>hx) (by omega) hf1 x hx hg
  | succ k =>
   rw[e1] at hf
   have:=zej (F:=F) B (i+1) s hB (by rw[e1] at hle;exact hle) hf k m (by simpa using hk) x hx hg
   rwa [show i+1+k=i+(k+1) by omega] at this
theorem zlf (hAF:A.length=F.length):∀ (n:Nat) (L:List Bool),L.length=F.length→L.count false<n→(∀ q:Nat,L[q]? =some true→z5p F A q)→leB F L→mkM A n L=z5y F A
 | 0,L,_,h,_,_=>by omega
 | n+1,L,hl,hc,hs,hle=>by
  have hm:=zv5 (F:=F) A 0 (L,false) (fun k l hk=>by rw[Nat.zero_add];exact hk) (by simp only;omega)
  rw[mkM]
  split
  · rename_i e
    refine zlf hAF n _ (by rw[hm.len];exact hl) ?_ (hm.sound hs) (za1 hle hm.le)
    rcases hm.grow e with g|g
    · cases g
    · simp only at g;omega
  · rename_i e
    have e':(mkP 0 A (L,false)).2=false:=by simpa using e
    have hcl:=zej (F:=F) A 0 (L,false) (fun k l hk=>by rw[Nat.zero_add];exact hk) (by simp only;omega) e'
    have hst:=hm.flag e'
    rw[hst]
    refine zwk hl fun q=>⟨hs q,fun hq=>?_⟩
    induction hq with
    | fin q h1 =>
     have:=zz5 hle q (by rw[List.getD,h1];rfl)
     exact zc5 this
    | arc q l x h1 h2 h3 ih =>
     have:=hcl q l h1 x h2 (by simp only;rw[List.getD,ih];rfl)
     rw[Nat.zero_add] at this
     exact zc5 this
end Go.Lx
namespace Go.Lx
open Go Go.Rx Go.Ax
theorem zjp (w:ByteArray) (e:Nat):btN (w.extract 0 e)=(btN w).take e:=by
 simp[btN,ByteArray.data_extract,List.map_take]
section
variable {a:Au} {lv:List Bool} (h1:∀ q:Nat,lv.getD q false=false→∀ w,a.acc (q:Nat) w=false) (h2:∀ q:Nat,lv.getD q false=true→∃ w,a.acc (q:Nat) w=true)
include h1 h2
end
theorem zso (a:Au) (lv:List Bool):∀ (l:List Int) (q:Int) (n:Nat),(lvP a lv q l n).length≤l.length
 | [],_,_=>by simp[lvP]
 | c::l,q,n=>by
  rw[lvP]
  split
  · simp
  · have:=zso a lv l (stL a lv q c) (n+zE c)
    simp;exact this
theorem zem (s:ByteArray):(Go.Rx.z29 s).length≤s.size:=by
 have:=z6t s (s.size-0) 0 (zAj _)
 rw[Go.Rx.z29,zA4];omega
theorem ztf {a:Au} {lv:List Bool}:∀ {W:List ByteArray} (b:ByteArray),(∀ w∈W,w.size≤1000)→ztm a lv b W≤1000*W.length
 | [],_,_=>by simp[ztm]
 | w::W,b,h=>by
  have ih:=ztf (a:=a) (lv:=lv) (W:=W) w fun x hx=>h x (by simp[hx])
  have h1:=List.length_filter_le (ztn b w) (lvP a lv 0 (Go.Rx.z29 w) 0)
  have h2:=zso a lv (Go.Rx.z29 w) 0 0
  have h3:=zem w
  have h4:=h w (by simp)
  rw[ztm,zAk];omega
theorem zv4 {b w:ByteArray} {e:Nat} (h:b.size<e):ztn b w e=true:=by
 rw[ztn,zAo (by omega:¬ e≤b.size)];rfl
theorem y1c {b w:ByteArray} {e:Nat} (h:¬ b.size<e):ztn b w e=!decide (b.extract 0 e=w.extract 0 e):=by
 rw[ztn,zAi (by omega:e≤b.size),Bool.true_and]
 congr 1
 rw[decide_eq_decide,← zjp,← zjp]
 exact⟨fun g=>zc6 g,fun g=>by rw[g]⟩
noncomputable def y7b (W:List ByteArray) (a:Au):Int:=if W.length=0∨(z5y a.F a.A).getD 0 false=false then 0 else ((1+ztm a (z5y a.F a.A) ByteArray.empty W:Nat):Int)
def z8b (c:Int):Rx:=.mk 1 0 0 [(c,c)] []
def z7n:Rx:=.mk 4 0 (-1) [] [.mk 1 0 0 [(0,1114111)] []]
def zon (p:List Int):Rx:=if p=[] then z7n else .mk 2 0 0 [] (p.map z8b++[z7n])
section
variable {ok:Int→List (Int × Int)→Bool} (h1:∀ c d:Int,ok c [(d,d)]=true↔c=d) (h2:∀ c:Int,ok c [(0,1114111)]=true↔0≤c∧c≤1114111)
include h1 h2
theorem y75 (c:Int) (w:List Int):L ok (z8b c) w↔w=[c]:=by
 rw[z8b,L]
 show (if (1:Int)=1 then _ else _)↔_
 rw[zAz rfl]
 constructor
 · rintro⟨d,rfl,h⟩;rw[h1] at h;rw[h]
 · rintro rfl;exact⟨c,rfl,(h1 c c).2 rfl⟩
theorem y4n:∀ (w:List Int),(∀ c∈w,0≤c∧c≤1114111)→L ok z7n w:=by
 intro w hw
 rw[z7n,L]
 show (if (4:Int)=1 then _ else _)
 rw[zAy (by decide),zAy (by decide),zAy (by decide)]
 refine⟨w.length,by omega,.inl rfl,?_⟩
 induction w with
 | nil=>rfl
 | cons c w ih =>
  refine⟨[c],w,rfl,?_,ih fun d hd=>hw d (by simp[hd])⟩
  rw[L1,L]
  show (if (1:Int)=1 then _ else _)
  rw[zAz rfl]
  exact⟨c,rfl,(h2 c).2 (hw c (by simp))⟩
theorem zos:∀ (p w:List Int),(∀ c∈w,0≤c∧c≤1114111)→(LC ok (p.map z8b++[z7n]) w↔p <+: w)
 | [],w,hw=>by
  simp only[List.map_nil,List.nil_append,LC,List.nil_prefix,iff_true]
  exact⟨w,[],(List.append_nil w).symm,y4n h1 h2 w hw,rfl⟩
 | c::p,w,hw=>by
  rw[List.map_cons,List.cons_append,LC]
  constructor
  · rintro⟨u,v,rfl,hu,hv⟩
    rw[y75 h1 h2] at hu
    subst hu
    exact List.cons_prefix_cons.2 ⟨rfl,(zos p v fun d hd=>hw d (by simp[hd])).1 hv⟩
  · rintro⟨x,rfl⟩
    exact⟨[c],p++x,rfl,(y75 h1 h2 c _).2 rfl,(zos p (p++x) fun d hd=>hw d (by simp at hd ⊢;exact .inr hd)).2 (List.prefix_append _ _)⟩
theorem y90 (p w:List Int) (hw:∀ c∈w,0≤c∧c≤1114111):L ok (zon p) w↔p <+: w:=by
 rw[zon]
 split
 · rename_i e;subst e
   exact⟨fun _=>List.nil_prefix,fun _=>y4n h1 h2 w hw⟩
 · rw[L]
   show (if (2:Int)=1 then _ else _)↔_
   rw[zAy (by decide),zAz rfl]
   exact zos h1 h2 p w hw
end
theorem z7i:∀ a b:List Rx,szL (a++b)=szL a+szL b
 | [],b=>by simp[szL]
 | x::a,b=>by rw[List.cons_append,szL,szL,z7i a b];omega
theorem zpm:∀ p:List Int,szL (p.map z8b)=p.length
 | []=>rfl
 | c::p=>by rw[List.map_cons,szL,zpm p,zAk,z8b,sz,szL];omega
theorem zr6:∀ a b:List Rx,pnL (a++b)=pnL a+pnL b
 | [],b=>by simp[pnL]
 | x::a,b=>by rw[List.cons_append,pnL,pnL,zr6 a b];omega
theorem zq8:∀ p:List Int,pnL (p.map z8b)=p.length
 | []=>rfl
 | c::p=>by rw[List.map_cons,pnL,zq8 p,zAk,z8b,pn,zAz rfl];omega
theorem zth:∀ a b:List Rx,dpL (a++b)=max (dpL a) (dpL b)
 | [],b=>by simp[dpL]
 | x::a,b=>by rw[List.cons_append,dpL,dpL,zth a b];omega
theorem zqs:∀ p:List Int,dpL (p.map z8b)≤1
 | []=>by simp[dpL]
 | c::p=>by have:=zqs p;rw[List.map_cons,dpL,z8b,dp,dpL];omega
theorem zmt:∀ a b:List Rx,z8d (a++b)=(z8d a&&z8d b)
 | [],b=>by simp[z8d]
 | x::a,b=>by rw[List.cons_append,z8d,z8d,zmt a b,Bool.and_assoc]
theorem zn7:∀ {p:List Int},(∀ c∈p,0≤c∧c≤1114111)→z8d (p.map z8b)=true
 | [],_=>rfl
 | c::p,h=>by
  have hc:=h c (by simp)
  rw[List.map_cons,z8d,zn7 fun d hd=>h d (by simp[hd]),z8b,vns,vn,zAz rfl]
  simp[zit,z8j,z8d,hc.1,hc.2]
theorem zqj {p:List Int} (h:∀ c∈p,0≤c∧c≤1114111) (hl:p.length≤12):val (zon p)=0:=by
 rw[zon]
 split
 · rfl
 · rename_i hne
   have hpos:0<p.length:=List.length_pos_iff.2 hne
   have e1:sz (.mk 2 0 0 [] (p.map z8b++[z7n]))=3+p.length:=by
    rw[sz,z7i,zpm];simp[szL,z7n,sz];omega
   have e2:dp (.mk 2 0 0 [] (p.map z8b++[z7n]))≤4:=by
    have:=zqs p
    have h3:dpL [z7n]=2:=rfl
    rw[dp,zth,h3];omega
   have e3:pn (.mk 2 0 0 [] (p.map z8b++[z7n]))=p.length+1:=by
    rw[pn,zAy (by decide),zAy (by decide),zr6,zq8];rfl
   have e4:vns (.mk 2 0 0 [] (p.map z8b++[z7n]))=true:=by
    rw[vns,zmt,zn7 h,vn,zAy (by decide),zAz rfl]
    have hk:z5l 2 (p.map z8b++[z7n])=true:=by
     rw[z5l,List.all_append,zA7]
     refine⟨List.all_eq_true.2 fun x hx=>?_,rfl⟩
     obtain⟨c,_,rfl⟩:=List.mem_map.1 hx
     rfl
    have hlen:(p.map z8b++[z7n]).length=p.length+1:=by simp
    rw[hk,hlen,show z8d [z7n]=true from rfl]
    simp;omega
   rw[val,e1,e3,e4,zAy (by omega),zAy (by decide),zAy (by omega)]
theorem y6m {p w:ByteArray} (hp:z71 p=true) (hw:z71 w=true) (hl:(Go.Rx.z29 p).length≤12):mtS (fun c=>[c]) (zon (Go.Rx.z29 p)) w=ze6 p w:=by
 have hr:∀ {s:ByteArray},∀ c∈Go.Rx.z29 s,0≤c∧c≤1114111:=fun c hc=>by
  have:=z3w c hc
  exact⟨this.1,this.2.1⟩
 have hv:=zqj hr hl
 rw[Bool.eq_iff_iff,y1k,z7s,y05 hp,y05 hw,y0a _ _ (zg7 hv)]
 have ho1:∀ c d:Int,okV (fun c=>[c]) c [(d,d)]=true↔c=d:=fun c d=>by
  simp[okV,inR];omega
 have ho2:∀ c:Int,okV (fun c=>[c]) c [(0,1114111)]=true↔0≤c∧c≤1114111:=fun c=>by
  simp[okV,inR]
 rw[y90 ho1 ho2 _ _ hr]
 constructor
 · rintro⟨_,_,x,hx⟩
   rw[← hx,zf7];exact List.prefix_append _ _
 · intro h
   exact⟨hv,hw,zct z3w z3w h⟩
theorem y6u {f:Nat→Bool} {lo c:Nat}:∀ {n:Nat},lo+c≤n→(∀ i,i<n→(f i=true↔lo≤i∧i<lo+c))→sel f n=(List.range c).map fun i=>lo+i
 | n,hn,h=>by
  have h1:sel f lo=[]:=z81 (n:=0) (zAf _) fun i _ hi=>by
   cases e:f i with
   | false=>rfl
   | true=>have:=(h i (by omega)).1 e;omega
  have h2:∀ k,k≤c→sel f (lo+k)=(List.range k).map fun i=>lo+i:=fun k=>by
   induction k with
   | zero=>intro _;rw[Nat.add_zero,h1];rfl
   | succ k ih =>
    intro hk
    rw[← Nat.add_assoc,zby,ih (by omega),zAz ((h (lo+k) (by omega)).2 ⟨by omega,by omega⟩),List.range_succ,List.map_append];rfl
  rw[z81 (n:=lo+c) (by omega) fun i g1 g2=>?_,h2 c (zAj _)]
  cases e:f i with
  | false=>rfl
  | true=>have:=(h i (by omega)).1 e;omega
theorem y4u:∀ (l:List Int) (a:ByteArray),btN (l.foldl (fun r n=>r++Utf8.encode n) a)=btN a++txN l
 | [],a=>by simp[txN]
 | c::l,a=>by rw[List.foldl_cons,y4u l,y1g,z5o,z9x,zAl]
theorem zvj (s:ByteArray):Go.runesBytes (Go.Rx.z29 s)=s↔z71 s=true:=by
 have e:Go.runesBytes (Go.Rx.z29 s)=txE (Go.Rx.z29 s):=by
  refine zc6 ?_
  rw[Go.runesBytes,y4u,z8l];rfl
 rw[e]
 constructor
 · intro h
   have:=(zvv (l:=Go.Rx.z29 s) z3w).2
   rwa [h] at this
 · intro h;exact(z9v h).symm
end Go.Lx
