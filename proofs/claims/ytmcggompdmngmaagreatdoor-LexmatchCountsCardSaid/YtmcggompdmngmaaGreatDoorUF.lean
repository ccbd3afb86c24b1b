/- A part of the proof: G12 to G14. -/
import Derived.Test.YtmcggompdmngmaaGreatDoorUc
import Derived.Test.YtmcggompdmngmaaGreatDoorUs
import Derived.Shelf.SlSortCmp.NoneTotal
import Derived.Test.YtmcggompdmngmaaGreatDoorProg
import Derived.Test.YtmcggompdmngmaaGreatDoorUx
import Derived.Test.YtmcggompdmngmaaGreatDoorUr
import Derived.Test.YtmcggompdmngmaaGreatDoorUE
set_option linter.all false
namespace Go.Proofs.YtmcggompdmngmaaGreatDoor
open Go.Ab Go.Rx
set_option maxHeartbeats 20000000
set_option maxRecDepth 100000
attribute [local irreducible] Run Ops Op1 z15 Val Tr z0d z0y NF Rel z2a z29
theorem zxg (l:List Rg) (hl:l.length≤1000000) (hb:∀ r∈l,0≤r.1∧r.1≤1114111∧0≤r.2∧r.2≤1114111):z0d Tryz.prog 216 [.d (rgs l)] (.d (rgs (zpw 0 l))):=by
 refine z14 fun H=>?_
 refine z0a Tryz.func216 (by kernel_rfl) rfl (by simp) ?_
 dsimp only[Tryz.f216]
 repeat' (first|refine z05 ?_|fail)
 all_goals try (exfalso;omega)
 refine z1t 3 1000 47 2 rfl rfl rfl ?_
 refine z0j ?_
 refine z01 (z0z (fun q:Nat × Int × List Rg=>⟨37,[(7,.d (rgs l)),(8,I .i64 l.length),(9,I .i64 (q.1:Nat)),(4,I .i32 q.2.1),(3,.ref (0,1000))],[(1000,.row 47 2 (q.2.2.map rgc))],H⟩)
  (fun q=>q.1≤l.length∧0≤q.2.1∧q.2.1≤1114112∧q.2.2.length≤q.1∧q.2.2++zpw q.2.1 (l.drop q.1)=zpw 0 l) (fun q=>l.length-q.1) ?_ (0,0,[]) ⟨zAf _,by simp,by simp,by simp,by simp⟩) rfl rfl
 rintro⟨i,a,out⟩ ⟨i1,i2,i3,i4,i5⟩ ih
 simp only at i1 i2 i3 i4 i5 ih ⊢
 by_cases hlt:i<l.length
 · obtain⟨r,hr⟩:∃ r,l[i]? =some r:=⟨_,zA0 hlt⟩
   obtain⟨b1,b2,b3,b4⟩:=hb r (zA2 hr)
   rw[drop_cons hr,zpw] at i5
   by_cases hc:a<r.1
   · rw[zAz hc] at i5
     repeat' (first|(apply z06;(refine z0b (z1a (ys:=l.map rgc) rfl (idx hr)) rfl rfl ?_))|(apply z0x;(first|refine z0b (z1h (zak (by omega) (by omega))) rfl rfl ?_| refine z0b (z1g (zak (by omega) (by omega))) rfl rfl ?_))|(apply z1q;(refine z4b (g:=rgc) (a,r.1-1) rfl ?_))|refine z05 ?_|refine fk (fun _=>?_) (fun _=>?_))
     all_goals try (exfalso;omega)
     refine z2g 24 1000 ?_
     exact z01 (ih (i+1,r.2+1,out++[(a,r.1-1)]) ⟨by simp only;omega,by simp only;omega,by simp only;omega,by simp;omega,by simpa using i5⟩ (by simp only;omega)) rfl rfl
   · rw[zAy hc] at i5
     repeat' (first|(apply z06;(refine z0b (z1a (ys:=l.map rgc) rfl (idx hr)) rfl rfl ?_))|(apply z0x;(refine z0b (z1g (zak (by omega) (by omega))) rfl rfl ?_))|refine z05 ?_|refine fk (fun _=>?_) (fun _=>?_))
     all_goals try (exfalso;omega)
     exact z01 (ih (i+1,r.2+1,out) ⟨by simp only;omega,by simp only;omega,by simp only;omega,by simp;omega,by simpa using i5⟩ (by simp only;omega)) rfl rfl
 · obtain rfl:i=l.length:=by omega
   rw[zAs,zpw] at i5
   by_cases hc:a≤1114111
   · rw[zAz hc] at i5
     rw[← i5]
     repeat' (first|(apply z1q;(refine z4b (g:=rgc) (a,1114111) rfl ?_))|refine z05 ?_|refine fk (fun _=>?_) (fun _=>?_))
     all_goals try (exfalso;omega)
     refine z10 35 rfl ?_
     exact z00 Tryz.func216 _ z13 ⟨rfl,rfl⟩
   · rw[zAy hc,List.append_nil] at i5
     rw[← i5]
     repeat' (first|refine z05 ?_|refine fk (fun _=>?_) (fun _=>?_))
     all_goals try (exfalso;omega)
     refine z10 1000 rfl ?_
     exact z00 Tryz.func216 _ z13 ⟨rfl,rfl⟩
open Go.Sort Go.RowKit in
def srt (q:List Rg):List Rg:=(pdq (ltOf cfR) q.toArray 0 q.toArray.size (Lib.bitLen q.toArray.size) true true).toList
open Go.Sort Go.RowKit in
theorem z3v (q:List Rg):(srt q).Perm q:=by
 have h:=(pdq_sorts (ltOf cfR) yah q.toArray 0 q.toArray.size (Lib.bitLen q.toArray.size) true true (zAf _) (zAj _) (Or.inl rfl)).1
 obtain⟨h1,_,h3⟩:=h
 rw[srt]
 generalize pdq (ltOf cfR) q.toArray 0 q.toArray.size (Lib.bitLen q.toArray.size) true true=d at *
 rw[← h1] at h3
 have h4:d.size=q.length:=by simpa using h1
 simp only[Array.extract_size,List.extract_toArray] at h3
 simpa[h4] using h3
open Go.Sort Go.RowKit in
theorem z95 (q:List Rg):(srt q).Pairwise fun x y=>x.1≤y.1:=by
 have hp:=z3v q
 have h:=(pdq_sorts (ltOf cfR) yah q.toArray 0 q.toArray.size (Lib.bitLen q.toArray.size) true true (zAf _) (zAj _) (Or.inl rfl)).2
 rw[srt] at hp ⊢
 generalize pdq (ltOf cfR) q.toArray 0 q.toArray.size (Lib.bitLen q.toArray.size) true true=d at *
 have hl:=hp.length_eq
 rw[List.pairwise_iff_getElem]
 intro i j hi hj hij
 have:=h i j (zAf _) hij (by simpa[← hl] using hj)
 rw[ltR] at this
 have hi':i<d.size:=by simpa using hi
 have hj':j<d.size:=by simpa using hj
 rw[getElem!_pos d _ hj',getElem!_pos d _ hi'] at this
 simpa using this
theorem zzy:∀ (l:List Rg) (a:Int),(∀ r∈l,a≤r.1∧r.1≤r.2)→(l.Pairwise fun x y=>x.1≤y.1)→zv4 a l
 | [],_,_,_=>trivial
 | r::l,a,h,hp=>by
  rw[List.pairwise_cons] at hp
  exact⟨(h r (by simp)).1,(h r (by simp)).2,zzy l r.1 (fun x hx=>⟨hp.1 x hx,(h x (by simp[hx])).2⟩) hp.2⟩
theorem zyk {q:List Rg} (h:∀ r∈q,0≤r.1∧r.1≤r.2):zbx (srt q)=norm q :=
 zw0 h (zzy _ 0 (fun r hr=>h r ((z3v q).mem_iff.1 hr)) (z95 q)) fun x=>(z3v q).mem_iff
theorem y6c (q:List Rg) (hq:q.length<4611686018427387904) (d x:Nat):z0y Tryz.prog 220 [.ref (d,x),.fn (.func 221) [] []] [((d,x),.row 47 2 (q.map rgc))] [((d,x),.row 47 2 ((srt q).map rgc))] (.tup []):=by
 have hl:(srt q).length=q.length:=(z3v q).length_eq
 refine zrh (α:=Rg) (by decide) y4p (fun _=>rfl) (fun x v hv=>by simp[y4p] at hv;rcases hv with rfl|rfl <;> rfl) ⟨_,Tryz.func220,by kernel_rfl,by kernel_rfl⟩ (fv:=.func (.func 221) #[] #[]) (fun β w own v h=>?_) q (srt q) hl (fun blk off cap w h1 h2=>?_) (fun p cap w=>zpj p cap _ w) d x
 · cases h with
   | fn f first cap fv cv h1 h2 hd1 hd2 =>
    obtain rfl:fv=[]:=by cases fv with|nil=>rfl|cons a b=>simp at h1
    obtain rfl:cv=[]:=by cases cv with|nil=>rfl|cons a b=>simp at h2
    rfl
 · exact y1x blk off cap q w h1 h2 hq
theorem zvq {pre:List Rg} {p v:Rg}:(pre++[p]).set ((((pre++[p]).length:Nat):Int)-1).toNat v=pre++[v]:=by
 exact zD132
theorem zg7 {pre:List Rg} {p:Rg}:(pre++[p])[((((pre++[p]).length:Nat):Int)-1).toNat]? =some p:=by
 exact zD132
theorem zls (q:List Rg) (hq:q.length≤1000000) (hb:∀ r∈q,0≤r.1∧r.1≤r.2∧r.2≤1114111):z0y Tryz.prog 215 [.ref (0,1000)] [((0,1000),.row 47 2 (q.map rgc))] [((0,1000),.gone)] (.d (rgs (norm q))):=by
 refine z11 fun H hH=>?_
 have hX:H 0 1000=some (.row 47 2 (q.map rgc)):=hH ((0,1000),.row 47 2 (q.map rgc)) (by simp)
 refine z0a Tryz.func215 (by kernel_rfl) rfl (by simp) ?_
 dsimp only[Tryz.f215]
 rw[← zyk fun r hr=>⟨(hb r hr).1,(hb r hr).2.1⟩]
 have hst:=y6c q (by omega) 0 2000
 have hl:(srt q).length=q.length:=(z3v q).length_eq
 have hbs:∀ r∈srt q,0≤r.1∧r.1≤r.2∧r.2≤1114111:=fun r hr=>hb r ((z3v q).mem_iff.1 hr)
 generalize srt q=S at *
 refine z1n 2000 0 1000 hX rfl rfl ?_
 repeat' (first|(apply z03;((refine z3y hst ?_;refine z83 2000 rfl ?_)))|refine z05 ?_|fail)
 all_goals try (exfalso;omega)
 refine z1t 3 1000 47 2 rfl rfl rfl ?_
 refine z0j ?_
 refine z01 (z0z (fun q:Nat × List Rg=>⟨51,[(9,.d (rgs S)),(10,I .i64 S.length),(11,I .i64 (q.1:Nat)),(3,.ref (0,1000))],[(1000,.row 47 2 (q.2.map rgc))],upd H (0,1000) .gone⟩)
  (fun q=>q.1≤S.length∧((q.1=0∧q.2=[])∨∃ pre p,q.2=pre++[p]∧pre.length<q.1∧0≤p.2∧p.2≤1114111∧pre++z8k p (S.drop q.1)=zbx S)) (fun q=>S.length-q.1) ?_ (0,[]) ⟨zAf _,.inl ⟨rfl,rfl⟩⟩) rfl rfl
 rintro⟨i,out⟩ ⟨i1,i2⟩ ih
 simp only at i1 i2 ih ⊢
 by_cases hlt:i<S.length
 · obtain⟨r,hr⟩:∃ r,S[i]? =some r:=⟨_,zA0 hlt⟩
   obtain⟨b1,b2,b3⟩:=hbs r (zA2 hr)
   rcases i2 with ⟨rfl,rfl⟩|⟨pre,p,rfl,j1,j2,j3,j4⟩
   · repeat' (first|(apply z06;(refine z0b (z1a (ys:=S.map rgc) rfl (idx hr)) rfl rfl ?_))|(apply z1q;(refine z5n (q:=([]:List Rg)) (g:=rgc) rfl rfl r rfl rfl rfl rfl rfl rfl rfl (by decide) (by simp) ?_))|refine z05 ?_|refine fk (fun _=>?_) (fun _=>?_))
     all_goals try (exfalso;omega)
     refine z2g 48 1000 ?_
     exact z01 (ih (1,[r]) ⟨by simp only;omega,.inr ⟨[],r,rfl,by simp,by omega,b3,by rw[List.nil_append,← show zbx (r::S.drop 1)=z8k r (S.drop 1) from rfl,← drop_cons hr,List.drop_zero]⟩⟩ (by simp only;omega)) rfl rfl
   · rw[drop_cons hr,z8k] at j4
     have hla:((pre++[p]).length:Int)=pre.length+1:=by simp
     by_cases hc:r.1≤p.2+1
     · rw[zAz hc] at j4
       repeat' (first|(apply z0g;(refine z0m (z0i zg7) rfl rfl ?_))|(apply z06;(refine z0b (z1a (ys:=S.map rgc) rfl (idx hr)) rfl rfl ?_))|(apply z08;(refine z0m (z1c rfl (by rw[zA4];omega)) rfl rfl ?_))|(apply z1l;(refine z0m (z1g (zak (by omega) (by omega))) rfl rfl ?_))|(apply z18;(refine z0l (p.1,max p.2 r.2) (by first|exact rfl|exact⟨_,rfl,rfl,rfl⟩) rfl rfl rfl rfl zg7 rfl rfl rfl zvq ?_))|refine z05 ?_|refine fk (fun _=>?_) (fun _=>?_)|(refine z1d (fun hg=>?_) (fun hg=>?_)<;> simp only[hg] <;> (try simp only[zA3,zA5,zA6,zA8] at hg)))
       all_goals try (exfalso;omega)
       exact z01 (ih (i+1,pre++[(p.1,max p.2 r.2)]) ⟨by simp only;omega,.inr ⟨pre,_,rfl,by simp only;omega,by simp only;omega,by simp only;omega,j4⟩⟩ (by simp only;omega)) rfl rfl
     · rw[zAy hc] at j4
       repeat' (first|(apply z0g;(refine z0m (z0i zg7) rfl rfl ?_))|(apply z06;(refine z0b (z1a (ys:=S.map rgc) rfl (idx hr)) rfl rfl ?_))|(apply z08;(refine z0m (z1c rfl (by rw[zA4];omega)) rfl rfl ?_))|(apply z1l;(refine z0m (z1g (zak (by omega) (by omega))) rfl rfl ?_))|(apply z1q;(refine z4b (g:=rgc) r rfl ?_))|refine z05 ?_|refine fk (fun _=>?_) (fun _=>?_)|(refine z1d (fun hg=>?_) (fun hg=>?_)<;> simp only[hg] <;> (try simp only[zA3,zA5,zA6,zA8] at hg)))
       all_goals try (exfalso;omega)
       refine z2g 48 1000 ?_
       exact z01 (ih (i+1,pre++[p]++[r]) ⟨by simp only;omega,.inr ⟨pre++[p],r,rfl,by simp only[zAa,zAn];omega,by omega,b3,by rw[zAl];exact j4⟩⟩ (by simp only;omega)) rfl rfl
 · obtain rfl:i=S.length:=by omega
   rw[zAs] at i2
   have hout:out=zbx S:=by
    rcases i2 with ⟨h1,rfl⟩|⟨pre,p,rfl,j1,j2,j3,j4⟩
    · rw[List.length_eq_zero_iff.1 h1];rfl
    · rw[← j4,z8k]
   rw[← hout]
   repeat' (first|refine z05 ?_|refine fk (fun _=>?_) (fun _=>?_))
   all_goals try (exfalso;omega)
   refine z10 1000 rfl ?_
   exact z00 Tryz.func215 _ z13 ⟨rfl,rfl⟩
theorem zfv {sp:List Int} {s:ByteArray} {i:Nat} {c:Int} {r:List U} (hi:i≤s.size) (h:z9d sp (rst s i)=.ok c r):(0≤c∧c≤1114111)∧∃ j,i<j∧j≤s.size∧r=rst s j:=by
 have h1:=zca sp (rst s i)
 have hr:0≤c∧c≤1114111:=by
  have hlt:i<s.size:=by
   false_or_by_contra
   rw[z1w (by omega)] at h;simp[z9d] at h
  have g0:=zbm s i
  rw[z2z hlt,z3u] at h
  split at h
  · by_cases h2:i+(Utf8.decode s i).2<s.size
    · have g1:=zbm s (i+(Utf8.decode s i).2)
      rw[z2z h2] at h
      simp only at h
      split at h
      · simp only[Rd.ok.injEq] at h;omega
      · simp at h
    · rw[z1w (by omega)] at h;simp at h
  · exact zD144
 rw[h] at h1
 obtain⟨j,g1,g2,rfl⟩:=z5k s _ i r (zAj _) hi h1.1
 refine⟨hr,j,?_,g2,rfl⟩
 rcases Nat.lt_or_ge i j with h3|h3
 · exact h3
 · obtain rfl:i=j:=by omega
   exact absurd h1.2 (Nat.lt_irrefl _)
theorem z9v {sp:List Int} {l:List U}:z9d sp l≠.out:=by
 exact zD111
theorem zok (r:Rg):∀ l:List Rg,(zht r l).length=l.length+1
 | []=>rfl
 | x::l=>by rw[zht];split <;> simp[zok r l]
theorem zjm:∀ (l acc:List Rg),(l.foldl (fun a r=>zht r a) acc).length=l.length+acc.length
 | [],acc=>by simp
 | r::l,acc=>by rw[List.foldl_cons,zjm l,zok,zAk];omega
theorem zdk:∀ (l:List Rg) (p:Rg),(z8k p l).length≤l.length+1
 | [],p=>by simp[z8k]
 | r::l,p=>by
  rw[z8k];split
  · have:=zdk l (p.1,max p.2 r.2);simp only[zAk];omega
  · have:=zdk l r;simp only[zAk];omega
theorem zm0 (l:List Rg):(norm l).length≤l.length:=by
 have h:=zjm l []
 rw[norm,y1s]
 cases hs:l.foldl (fun a r=>zht r a) [] with
 | nil=>simp[zbx]
 | cons r q =>
  rw[hs] at h
  have:=zdk q r
  rw[zbx];simp at h;omega
theorem znk {l:List Rg} (h:∀ r∈l,0≤r.1∧r.1≤r.2∧r.2≤1114111):∀ r∈norm l,0≤r.1∧r.1≤1114111∧0≤r.2∧r.2≤1114111:=by
 obtain⟨h1,h2⟩:=zcs (a:=0) fun r hr=>⟨(h r hr).1,(h r hr).2.1⟩
 intro r hr
 have hle:=y5u.zdn h1 r hr
 have key:∀ c,inS (norm l) c→0≤c∧c≤1114111:=fun c hc=>by
  obtain⟨x,hx,h3,h4⟩:=(h2 c).1 hc
  have:=h x hx;omega
 have k1:=key r.1 ⟨r,hr,Int.le_refl _,hle⟩
 have k2:=key r.2 ⟨r,hr,hle,Int.le_refl _⟩
 omega
def zs5 (b:Bool) (L:List U):Rd (List Rg)→Rd Rx
 | .out=>.out
 | .err a e=>.err a e
 | .ok rs l1=>if b=true then (if (y05 rs).length=0 then .err L 1 else .ok (zoe (y05 rs)) l1) else .ok (zoe (norm rs)) l1
theorem y60 {n:Nat} {l:List U} (h:nx l.tail=94):zgp n l=zs5 true l (z3s n [] l.tail.tail):=by
 rw[zgp,zAz h]
 cases z3s n [] l.tail.tail <;> rfl
theorem y5i {n:Nat} {l:List U} (h:nx l.tail≠94):zgp n l=zs5 false l (z3s n [] l.tail):=by
 rw[zgp,zAy h]
 cases z3s n [] l.tail <;> rfl
section
variable {X:Nat} (hX0:X≠700) (hX1:X≠701) (τ:Tab) (s:ByteArray) (hs:s.size≤1000000)
include hX0 hX1 hs
theorem y1c (n i:Nat) (hi:i≤s.size) (h91:nx (rst s i)=91) (hne:zgp n (rst s i)≠.out) (e0:Nat) :
 z0y Tryz.prog 208 [.ptr (e0,X) 0] (((e0,X),pbx s i 0 0)::zew τ (e0+1)) [((e0,X),zpl s (zgp n (rst s i)))] (z9f eX (eX zeh) (zgp n (rst s i))):=by
 refine z11 fun H hH=>?_
 have hX:H e0 X=some (pbx s i 0 0):=hH ((e0,X),pbx s i 0 0) (by simp)
 have hT:HT τ (e0+1) H:=HT.of (bs:=[((e0,X),pbx s i 0 0)]) hH
 refine z0a Tryz.func208 (by kernel_rfl) rfl (by simp) ?_
 dsimp only[Tryz.f208]
 obtain⟨hlt,ht,he⟩:=z2h hi h91 (by decide) (by decide)
 have hn1:=z47 (X:=X) τ s (i+1) hlt 0 0 (e0+1)
 by_cases hng:nx (rst s (i+1))=94
 · obtain⟨hlt1,ht1,he1⟩:=z2h (i:=i+1) hlt hng (by decide) (by decide)
   have hq:zgp n (rst s i)=zs5 true (rst s i) (z3s n [] (rst s (i+2))):=by rw[y60 (by rw[ht];exact hng),ht,ht1]
   have hj0:i+2≤s.size:=hlt1
   rw[hng] at hn1
   obtain⟨T,hT0⟩:∃ T,z3s n [] (rst s (i+2))=T:=⟨_,rfl⟩
   rw[hT0] at hq
   rw[hq] at hne ⊢
   repeat' (first|(apply z0f;(first|refine z2q (z02 _ (e0,X) _) ?_| refine z2q hX ?_))|(apply z03;(refine z0p hn1 (z09 (m:=(e0+1,X)) (z02 _ (e0,X) _) (bkT (by repeat (first|exact hT|refine HT.upd ?_ hX0 hX1)))) ?_))|(apply z0n;(first|refine z1u (raw':=pbx s ((i+2:Nat):Int) 0 0) (z02 _ (e0,X) _) ?_| refine z1u (raw':=pbx s ((i+1:Nat):Int) 0 0) hX ?_))|refine z05 ?_|fail)
   all_goals try (exfalso;omega)
   rw[z0c]
   refine z1t 6 1000 47 2 rfl rfl rfl ?_
   refine z0j ?_
   refine z01 (z0z (fun q:Nat × List Rg × Nat=>⟨108,[(0,.ptr (e0+1,X) 0),(2,.ptr (0,2) 0),(4,I .i64 (i:Nat)),(5,B true),(6,.ref (0,1000))],[(1000,.row 47 2 (q.2.1.map rgc)),(2,.box (z5w [Value.int .i64 0,Value.int .i64 0,Value.int .i64 0,z2s,z2s]))],upd H (e0,X) (pbx s (q.2.2:Nat) 0 0)⟩)
    (fun q=>q.2.2≤s.size∧q.2.1.length≤q.2.2∧(∀ r∈q.2.1,0≤r.1∧r.1≤r.2∧r.2≤1114111)∧z3s q.1 q.2.1 (rst s q.2.2)=T) (fun q=>q.1) ?_ (n,[],(i+2)) ⟨hj0,zAf _,by simp,hT0⟩) rfl rfl
   rintro⟨m,acc,j⟩ ⟨i1,i2,i3,i4⟩ ih
   simp only at i1 i2 i3 i4 ih ⊢
   cases m with
   | zero=>rw[z3s] at i4;subst i4;exact absurd rfl hne
   | succ m =>
   have hnj:=z47 (X:=X) τ s j i1 0 0 (e0+1)
   rw[z3s] at i4
   by_cases hend:acc≠[]∧nx (rst s j)=93
   · rw[zAz hend] at i4
     have hacc:(acc.length:Int)≠0:=by
      have:=List.length_pos_iff.2 hend.1;omega
     obtain⟨hjl,htj,hej⟩:=z2h i1 hend.2 (by decide) (by decide)
     rw[htj] at i4
     subst i4
     have hmg:=zls acc (by omega) i3
     have hnl:=zm0 acc
     have hnr:=znk i3
     rw[hend.2] at hnj
     have ho:=zxg (norm acc) (by omega) hnr
     by_cases h0:(zpw 0 (norm acc)).length=0
     · rw[show zs5 true (rst s i) (.ok acc (rst s (j+1)))=.err (rst s i) 1 by rw[zs5,zAz rfl,y05,zAz h0],z5f hi]
       have hf:=z5q (X:=X) s (I .i64 ((j+1:Nat):Int)) (i:Nat) 1 (e0+1) (by decide)
       repeat' (first|(apply z0f;(refine z2q (z02 _ (e0,X) _) ?_))|(apply z03;(first|refine z2y hf rfl (z02 _ (e0,X) _) (by decide) ?_|refine z0p hnj (z09 (m:=(e0+1,X)) (z02 _ (e0,X) _) (bkT (by repeat (first|exact hT|refine HT.upd ?_ hX0 hX1)))) ?_| refine z3y hmg ?_| refine z1i ho ?_))|(apply z0n;(refine z1u (raw':=pbx s ((j+1:Nat):Int) 0 0) (z02 _ (e0,X) _) ?_))|refine z05 ?_|refine fk (fun _=>?_) (fun _=>?_))
       all_goals try (exfalso;omega)
       all_goals ((repeat rw[z0c]);refine z4v wkP ?_;first|exact z00 Tryz.func208 _ (z04 rfl rfl rfl rfl rfl rfl rfl) ⟨rfl,rfl⟩|exact z00 Tryz.func208 _ z0s ⟨rfl,rfl⟩|exact z00 Tryz.func208 _ z13 ⟨rfl,rfl⟩|exact z00 Tryz.func208 _ z1m ⟨rfl,rfl⟩)
     · rw[show zs5 true (rst s i) (.ok acc (rst s (j+1)))=.ok (zoe (y05 acc)) (rst s (j+1)) by rw[zs5,zAz rfl];rw[y05,zAy h0],z3w hjl]
       repeat' (first|(apply z0f;(refine z2q (z02 _ (e0,X) _) ?_))|(apply z03;(first|refine z0p hnj (z09 (m:=(e0+1,X)) (z02 _ (e0,X) _) (bkT (by repeat (first|exact hT|refine HT.upd ?_ hX0 hX1)))) ?_| refine z3y hmg ?_| refine z1i ho ?_))|(apply z0n;(refine z1u (raw':=pbx s ((j+1:Nat):Int) 0 0) (z02 _ (e0,X) _) ?_))|refine z05 ?_|refine fk (fun _=>?_) (fun _=>?_))
       all_goals exact zD95
   · exact zD2
 · have hq:zgp n (rst s i)=zs5 false (rst s i) (z3s n [] (rst s (i+1))):=by rw[y5i (by rw[ht];exact hng),ht]
   have hj0:i+1≤s.size:=hlt
   obtain⟨T,hT0⟩:∃ T,z3s n [] (rst s (i+1))=T:=⟨_,rfl⟩
   rw[hT0] at hq
   rw[hq] at hne ⊢
   repeat' (first|(apply z0f;(first|refine z2q (z02 _ (e0,X) _) ?_| refine z2q hX ?_))|(apply z03;(refine z0p hn1 (z09 (m:=(e0+1,X)) (z02 _ (e0,X) _) (bkT (by repeat (first|exact hT|refine HT.upd ?_ hX0 hX1)))) ?_))|(apply z0n;(first|refine z1u (raw':=pbx s ((i+2:Nat):Int) 0 0) (z02 _ (e0,X) _) ?_| refine z1u (raw':=pbx s ((i+1:Nat):Int) 0 0) hX ?_))|refine z05 ?_|refine fk (fun _=>?_) (fun _=>?_))
   all_goals try (exfalso;omega)
   rw[zAo hng]
   refine z1t 6 1000 47 2 rfl rfl rfl ?_
   refine z0j ?_
   refine z01 (z0z (fun q:Nat × List Rg × Nat=>⟨108,[(0,.ptr (e0+1,X) 0),(2,.ptr (0,2) 0),(4,I .i64 (i:Nat)),(5,B false),(6,.ref (0,1000))],[(1000,.row 47 2 (q.2.1.map rgc)),(2,.box (z5w [Value.int .i64 0,Value.int .i64 0,Value.int .i64 0,z2s,z2s]))],upd H (e0,X) (pbx s (q.2.2:Nat) 0 0)⟩)
    (fun q=>q.2.2≤s.size∧q.2.1.length≤q.2.2∧(∀ r∈q.2.1,0≤r.1∧r.1≤r.2∧r.2≤1114111)∧z3s q.1 q.2.1 (rst s q.2.2)=T) (fun q=>q.1) ?_ (n,[],(i+1)) ⟨hj0,zAf _,by simp,hT0⟩) rfl rfl
   rintro⟨m,acc,j⟩ ⟨i1,i2,i3,i4⟩ ih
   simp only at i1 i2 i3 i4 ih ⊢
   cases m with
   | zero=>rw[z3s] at i4;subst i4;exact absurd rfl hne
   | succ m =>
   have hnj:=z47 (X:=X) τ s j i1 0 0 (e0+1)
   rw[z3s] at i4
   by_cases hend:acc≠[]∧nx (rst s j)=93
   · rw[zAz hend] at i4
     have hacc:(acc.length:Int)≠0:=by
      have:=List.length_pos_iff.2 hend.1;omega
     obtain⟨hjl,htj,hej⟩:=z2h i1 hend.2 (by decide) (by decide)
     rw[htj] at i4
     subst i4
     have hmg:=zls acc (by omega) i3
     have hnl:=zm0 acc
     have hnr:=znk i3
     rw[hend.2] at hnj
     rw[show zs5 false (rst s i) (.ok acc (rst s (j+1)))=.ok (zoe (norm acc)) (rst s (j+1)) from rfl,z3w hjl]
     repeat' (first|(apply z0f;(refine z2q (z02 _ (e0,X) _) ?_))|(apply z03;(first|refine z0p hnj (z09 (m:=(e0+1,X)) (z02 _ (e0,X) _) (bkT (by repeat (first|exact hT|refine HT.upd ?_ hX0 hX1)))) ?_| refine z3y hmg ?_))|(apply z0n;(refine z1u (raw':=pbx s ((j+1:Nat):Int) 0 0) (z02 _ (e0,X) _) ?_))|refine z05 ?_|refine fk (fun _=>?_) (fun _=>?_))
     all_goals exact zD95
   · exact zD2
end
def aE (n:Nat) (l:List U):Rx :=
 if nx l=40 then (match pU n [] l.tail with|.ok e _=>e|_=>zeh)
 else if nx l=46 then zeh else if nx l=91 then zeh
 else if nx l≠92∧spA.contains (nx l)=true then zeh else Rx.one 0 0
def rsA (n:Nat) (l:List U):Rd Rx→PV
 | .ok a _=>.tup [.d (eX a),B true]
 | .err _ _=>.tup [.d (eX (aE n l)),B false]
 | .out=>.any
section
variable {X:Nat} (hX0:X≠700) (hX1:X≠701) (τ:Tab) (s:ByteArray) (hs:s.size≤1000000)
def HU (X:Nat) (τ:Tab) (s:ByteArray) (N:Nat):Prop:=∀ (i:Nat),i≤s.size→∀ e0:Nat,pU N [] (rst s i)≠.out →
 z0y Tryz.prog 87 [.ptr (e0,X) 0] (((e0,X),pbx s i 0 0)::zew τ (e0+1)) [((e0,X),zpl s (pU N [] (rst s i)))] (z9f eX (eX zeh) (pU N [] (rst s i)))
def HC (X:Nat) (τ:Tab) (s:ByteArray) (N:Nat):Prop:=∀ (i:Nat),i≤s.size→∀ e0:Nat,pC N [] (rst s i)≠.out →
 z0y Tryz.prog 128 [.ptr (e0,X) 0] (((e0,X),pbx s i 0 0)::zew τ (e0+1)) [((e0,X),zpl s (pC N [] (rst s i)))] (z9f eX (eX zeh) (pC N [] (rst s i)))
def HR (X:Nat) (τ:Tab) (s:ByteArray) (N:Nat):Prop:=∀ (i:Nat),i≤s.size→0≤nx (rst s i)→∀ e0:Nat,pR N (rst s i)≠.out →
 z0y Tryz.prog 164 [.ptr (e0,X) 0] (((e0,X),pbx s i 0 0)::zew τ (e0+1)) [((e0,X),zpl s (pR N (rst s i)))] (z9f eX (eX zeh) (pR N (rst s i)))
def HA (X:Nat) (τ:Tab) (s:ByteArray) (N:Nat):Prop:=∀ (i:Nat),i≤s.size→0≤nx (rst s i)→∀ e0:Nat,pA (N+1) (rst s i)≠.out →
 z0y Tryz.prog 196 [.ptr (e0,X) 0] (((e0,X),pbx s i 0 0)::zew τ (e0+1)) [((e0,X),zpl s (pA (N+1) (rst s i)))] (rsA N (rst s i) (pA (N+1) (rst s i)))
include hX0 hX1 hs
theorem y6x (N:Nat) (hU:HU X τ s N):HA X τ s N:=by
 intro i hi hnx e0 hne
 refine z11 fun H hH=>?_
 have hX:H e0 X=some (pbx s i 0 0):=hH ((e0,X),pbx s i 0 0) (by simp)
 have hT:HT τ (e0+1) H:=HT.of (bs:=[((e0,X),pbx s i 0 0)]) hH
 refine z0a Tryz.func196 (by kernel_rfl) rfl (by simp) ?_
 dsimp only[Tryz.f196]
 have hn:=z47 (X:=X) τ s i hi 0 0 (e0+1)
 rw[pA] at hne ⊢
 by_cases h40:nx (rst s i)=40
 · obtain⟨hlt,ht,he⟩:=z2h hi h40 (by decide) (by decide)
   rw[zAz h40,ht] at hne ⊢
   have hu:=hU (i+1) hlt (e0+1) (fun h=>hne (by rw[h]))
   have haE:aE N (rst s i)=(match pU N [] (rst s (i+1)) with|.ok e _=>e|_=>zeh):=by rw[aE,zAz h40,ht]
   have hsf:=(zgt N).1 [] (rst s (i+1))
   rw[h40] at hn
   rcases hp:pU N [] (rst s (i+1)) with ⟨e,r⟩|⟨a,b⟩|_
   · rw[hp] at hu hsf haE
     obtain⟨j,hj1,hj,rfl⟩:=z5k s _ (i+1) r (zAj _) hlt hsf
     rw[z3w hj] at hu
     simp only at haE
     obtain⟨op,mn,mx,rs,ks⟩:=e
     rw[z9f,z6j] at hu
     have heat:=ya5 hX0 hX1 τ s hs j hj 41 (by decide) (by decide) (e0+1)
     simp only
     by_cases h41:nx (rst s j)=41
     · obtain⟨hjl,htj,hej⟩:=z2h hj h41 (by decide) (by decide)
       rw[zAz h41,htj,z3w hjl,rsA,z6j]
       rw[zAz h41,zAi h41] at heat
       all_goals exact zD45
     · rw[zAy h41,z5f hj,rsA,haE,z6j]
       rw[zAy h41,zAo h41] at heat
       all_goals exact zD45
   · rw[hp] at hu haE
     simp only at haE
     rw[z9f,z4e] at hu
     simp only
     rw[rsA,haE,z4e]
     repeat' (first|(apply z0f;(refine z2q hX ?_))|(apply z03;(first|refine z1y hu (z02 _ (e0,X) _) (bkT (by repeat (first|exact hT|refine HT.upd ?_ hX0 hX1))) ?_| refine z0p hn (z09 (m:=(e0+1,X)) hX (bkT (by repeat (first|exact hT|refine HT.upd ?_ hX0 hX1)))) ?_))|(apply z0n;(refine z1u (raw':=pbx s ((i+1:Nat):Int) 0 0) hX ?_))|refine z05 ?_|fail)
     all_goals exact zD7
   · rw[hp] at hne;exact absurd rfl hne
 rw[zAy h40] at hne ⊢
 by_cases h46:nx (rst s i)=46
 · obtain⟨hlt,ht,he⟩:=z2h hi h46 (by decide) (by decide)
   rw[zAz h46,ht,z3w hlt]
   have ho:=y3j 0 1114111
   rw[h46] at hn
   repeat' (first|(apply z0f;(refine z2q hX ?_))|(apply z03;(first|refine z0p hn (z09 (m:=(e0+1,X)) hX (bkT (by repeat (first|exact hT|refine HT.upd ?_ hX0 hX1)))) ?_| refine z1i ho ?_))|(apply z0n;(refine z1u (raw':=pbx s ((i+1:Nat):Int) 0 0) hX ?_))|refine z05 ?_|fail)
   all_goals exact zD7
 rw[zAy h46] at hne ⊢
 by_cases h91:nx (rst s i)=91
 · rw[zAz h91] at hne ⊢
   have hcl:=y1c hX0 hX1 τ s hs N i hi h91 hne (e0+1)
   have haE:aE N (rst s i)=zeh:=by rw[aE,zAy h40,zAy h46,zAz h91]
   rw[h91] at hn
   rcases hp:zgp N (rst s i) with ⟨e,r⟩|⟨a,b⟩|_
   · rw[hp] at hcl
     obtain⟨op,mn,mx,rs,ks⟩:=e
     rw[z9f,z6j] at hcl
     rw[rsA,z6j]
     all_goals exact zD99
   · rw[hp] at hcl
     rw[z9f,z4e] at hcl
     rw[rsA,haE,z4e]
     all_goals exact zD99
   · exact absurd hp hne
 rw[zAy h91] at hne ⊢
 have hr:=zms s i
 have hcr:=z5z yar (nx (rst s i)) hr.1 hr.2
 by_cases hsp:nx (rst s i)≠92∧spA.contains (nx (rst s i))=true
 · have haE:aE N (rst s i)=zeh:=by rw[aE,zAy h40,zAy h46,zAy h91,zAz hsp]
   have hlt:=y2t hi hnx
   have hp:z9d spA (rst s i)=.err (rst s i) 3:=by
    have e1:=z2z hlt
    have hx:=zbs hlt
    have h1:=hsp.1
    have h2:=hsp.2
    rw[e1,z3u]
    simp only
    rw[← hx,zAy h1,zAz h2]
   rw[hp]
   simp only
   rw[z5f hi,rsA,haE,z4e]
   have hf:=z5q (X:=X) s (I .i64 (i:Nat)) (i:Nat) 3 (e0+1) (by decide)
   rw[hsp.2] at hcr
   have h1:=hsp.1
   repeat' (first|(apply z0f;(refine z2q hX ?_))|(apply z03;(first|refine z2y hf rfl hX (by decide) ?_|refine z0p hn (z09 (m:=(e0+1,X)) hX (bkT (by repeat (first|exact hT|refine HT.upd ?_ hX0 hX1)))) ?_| refine z1i hcr ?_))|refine z05 ?_|refine fk (fun _=>?_) (fun _=>?_))
   all_goals try (exfalso;omega)
   all_goals ((repeat rw[z0c]);refine z4v wkP ?_;first|exact z00 Tryz.func196 _ (z04 rfl rfl rfl rfl rfl rfl rfl) ⟨rfl,rfl⟩|exact z00 Tryz.func196 _ z0s ⟨rfl,rfl⟩|exact z00 Tryz.func196 _ z13 ⟨rfl,rfl⟩|exact z00 Tryz.func196 _ z1m ⟨rfl,rfl⟩)
 · have hok:nx (rst s i)=92∨spA.contains (nx (rst s i))=false:=by
    by_cases h:nx (rst s i)=92
    · exact .inl h
    · right
      cases h2:spA.contains (nx (rst s i)) with
      | false=>rfl
      | true=>exact absurd ⟨h,h2⟩ hsp
   have haE:aE N (rst s i)=Rx.one 0 0:=by rw[aE,zAy h40,zAy h46,zAy h91,zAy hsp]
   have hch:=y0v hX0 hX1 τ s hs yar i hi hnx hok (e0+1)
   rcases hp:z9d spA (rst s i) with ⟨c,r⟩|⟨a,b⟩|_
   · rw[hp] at hch
     have ho:=y3j c c
     simp only
     rw[rsA,znj]
     exact zD30
   · rw[hp] at hch
     have ho:=y3j 0 0
     simp only
     rw[rsA,haE,znj]
     exact zD30
   · exact absurd hp z9v
end
theorem zkw {lo hi:Int} {l r:List U} {b:Int × Int} (h:zeu lo hi l=.ok b r):nx r=125:=by
 rw[zeu] at h
 split at h
 · simp only[Rd.ok.injEq] at h;rw[← h.2];assumption
 · simp at h
theorem zs8 {l r:List U} {b:Int × Int} (h:z9g l=.ok b r):nx r=125:=by
 rw[z9g] at h
 split at h
 · simp at h
 · simp at h
 · split at h
   · split at h
     · exact zkw h
     · split at h
       · simp at h
       · simp at h
       · exact zkw h
   · exact zkw h
end Go.Proofs.YtmcggompdmngmaaGreatDoor
