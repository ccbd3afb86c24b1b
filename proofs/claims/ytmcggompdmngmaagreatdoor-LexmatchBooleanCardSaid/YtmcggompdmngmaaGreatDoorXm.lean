/- A part. -/
import Derived.Test.YtmcggompdmngmaaGreatDoorXl
set_option linter.all false
open Go.Proofs.Tryz
namespace Go.Proofs.YtmcggompdmngmaaGreatDoor
open Go.Ab Go.Ax
def sr(a b:Nat)(d:Array Int):Array Int:=(d.toList.take a++(srt ((d.toList.take b).drop a)++d.toList.drop b)).toArray
theorem y2g(d:Array Int)(a b:Nat):(d.extract a b).toList=(d.toList.take b).drop a:=by
 rw[Array.toList_extract,List.extract_eq_take_drop,List.drop_take]
theorem three(l:List Int)(a b:Nat)(h:a≤b):l.take a++((l.take b).drop a++l.drop b)=l:=by
 rw[←zAl]
 have e:l.take a++(l.take b).drop a=l.take b:=by
  have:=List.take_append_drop a (l.take b)
  rwa [List.take_take,Nat.min_eq_left h]at this
 rw[e,List.take_append_drop]
theorem y0w{a b:Nat}{d R:Array Int}(hab:a≤b)(hb:b≤d.size)(hp:Go.Sort.PermIn a b d R)(hs:Go.Sort.SortedIn Go.Sort.ltInt a b R):R=sr a b d:=by
 obtain⟨h1,h2,h3⟩:=hp
 rw[y2g,y2g]at h3
 have hz:R.toList.length=d.toList.length:=by simpa using h1
 have hg:∀i,i<a∨b≤i→R.toList[i]? =d.toList[i]?:=fun i hi=>by
  have:=h2 i hi
  by_cases c:i<d.size
  ·rw[getElem!_pos R i (by omega),getElem!_pos d i c]at this
   rw[Array.getElem?_toList,Array.getElem?_toList,Array.getElem?_eq_getElem (by omega),Array.getElem?_eq_getElem c,this]
  ·rw[zAv (by simp;omega),zAv (by simp;omega)]
 have e1:R.toList.take a=d.toList.take a:=List.ext_getElem? fun i=>by
  rw[List.getElem?_take,List.getElem?_take]
  split
  ·exact hg i (.inl (by assumption))
  ·rfl
 have e3:R.toList.drop b=d.toList.drop b:=List.ext_getElem? fun i=>by
  rw[List.getElem?_drop,List.getElem?_drop]
  exact hg _ (.inr (by omega))
 have e2:(R.toList.take b).drop a=srt ((d.toList.take b).drop a):=by
  refine List.Perm.eq_of_pairwise (le:=fun x y:Int=>x≤y) (fun x y _ _ p q=>by omega) ?_ (zan _) (h3.trans (z8c _).symm)
  rw[List.pairwise_iff_getElem]
  intro i j hi hj hij
  have hl:((R.toList.take b).drop a).length=b-a:=by simp;omega
  have:=hs (a+i) (a+j) (by omega) (by omega) (by omega)
  rw[getElem!_pos R (a+i) (by omega),getElem!_pos R (a+j) (by omega)]at this
  simp only[Go.Sort.ltInt,zA5]at this
  rw[List.getElem_drop,List.getElem_drop,List.getElem_take,List.getElem_take,Array.getElem_toList,Array.getElem_toList]
  omega
 have:=three R.toList a b hab
 rw[e1,e2,e3]at this
 rw[sr,this]
theorem y3j{a b:Nat}{d:Array Int}(hab:a≤b)(hb:b≤d.size):Go.Sort.PermIn a b d (sr a b d)∧Go.Sort.SortedIn Go.Sort.ltInt a b (sr a b d):=by
 obtain⟨h1,h2⟩:=Go.Sort.insertionSort_holds Go.Sort.swo_ltInt d a b hab hb
 rw[←y0w hab hb h1 h2]
 exact⟨h1,h2⟩
theorem y7y(M:List Int):(sr 0 M.length M.toArray).toList=srt M:=by simp[sr]
theorem zxx{P:Program}{g:FuncId}{ps:List PV}{m:Nm}{b:Blk}{p:PV}(h:z0u P g ps [(m,b)] [] p):z0u P g ps [(m,b)] [(m,b)] p:=fun H hH=>by
 have:=h H hH
 rwa [show z6j H [(m,b)]=z6j H []from zbt (hH (m,b) (by simp))]
attribute [local irreducible] Run Ops Op1 z0y Val Tr z0a z0u NF Rel z27 z29
theorem ybv(a b:Nat)(d:Array Int)(hab:a≤b)(hb:b≤d.size)(hz:d.size≤100000000) :
 z0u prog 169 [.ref (0,1000),I .i64 (a:Nat),I .i64 (b:Nat)] [((0,1000),rwA d)] [((0,1000),rwA (sr a b d))] (.tup []):=by
 have hl:d.toList.length=d.size:=by simp
 have h:=zz4 (d.toList.take a) ((d.toList.take b).drop a) (d.toList.drop b) (a:Nat) (b:Nat) (by rw[zAm];omega) (by rw[List.length_drop,zAm,zAm];omega) (by rw[List.length_drop,zAm,zAm];omega)
 rw[three _ _ _ hab]at h
 exact h
set_option maxHeartbeats 20000000
set_option maxRecDepth 100000
def Okd(a b z:Nat)(S d:Array Int):Prop:=d.size=z∧b≤z∧a≤b∧Go.Sort.Below Go.Sort.ltInt a b d∧∀R,Go.Sort.PermIn a b d R→Go.Sort.SortedIn Go.Sort.ltInt a b R→R=S
section
variable{a b z:Nat}{S d d':Array Int}
theorem zhq(h:Okd a b z S d)(hp:Go.Sort.PermIn a b d d'):Okd a b z S d' :=
 ⟨hp.1.trans h.1,h.2.1,h.2.2.1,h.2.2.2.1.perm (by rw[h.1];exact h.2.1) hp,fun R h1 h2=>h.2.2.2.2 R (Go.Sort.permIn_trans _ _ _ a b hp h1) h2⟩
theorem ya5(h:Okd a b z S d):sr a b d=S:=by
 have h2:b≤d.size:=by rw[h.1];exact h.2.1
 obtain⟨h3,h4⟩:=y3j h.2.2.1 h2
 exact h.2.2.2.2 _ h3 h4
theorem y81{p mid:Nat}{d4:Array Int}(h:Okd a b z S d)(ha:0<a)(h1:a≤p)(h2:p<b)(hn:Go.Sort.ltInt d[a-1]! d[p]! =false)(hx:Go.Sort.partitionEqual Go.Sort.ltInt d a b p=(mid,d4)):a<mid∧Okd mid b z S d4:=by
 obtain⟨g1,g2,g3,g4,g5⟩:=Go.Sort.round_eq Go.Sort.swo_ltInt (Go.Sort.partitionEqual_holds _) ha h1 h2 (by rw[h.1];exact h.2.1) h.2.2.2.1 hn hx
 exact⟨g1,g3.trans h.1,h.2.1,g2,g4,fun R r1 r2=>h.2.2.2.2 R (g5 R r1 r2).1 (g5 R r1 r2).2⟩
theorem zz1{p mid:Nat}{ap:Bool}{d4:Array Int}(h:Okd a b z S d)(h1:a≤p)(h2:p<b)(hx:Go.Sort.partition Go.Sort.ltInt d a b p=(mid,ap,d4)) :
 a≤mid∧mid<b∧d4.size=z∧Go.Sort.Below Go.Sort.ltInt a mid d4∧Go.Sort.Below Go.Sort.ltInt (mid+1) b d4∧Okd (mid+1) b z S (sr a mid d4)∧Okd a mid z S (sr (mid+1) b d4):=by
 obtain⟨g1,g2,g3,g4,g5,g6,g7⟩:=Go.Sort.round_part Go.Sort.swo_ltInt (Go.Sort.partition_holds _) h1 h2 (by rw[h.1];exact h.2.1) h.2.2.2.1 hx
 have hz:d4.size=z:=g3.trans h.1
 have hb:=h.2.1
 obtain⟨l1,l2⟩:=y3j (a:=a) (b:=mid) (d:=d4) g1 (by omega)
 obtain⟨r1,r2⟩:=y3j (a:=mid+1) (b:=b) (d:=d4) g2 (by omega)
 obtain⟨l3,l4⟩:=g6 _ l1 l2
 obtain⟨r3,r4⟩:=g7 _ r1 r2
 exact⟨g1,g2,hz,g4,g5,⟨l1.1.trans hz,hb,g2,l3,fun R x y=>h.2.2.2.2 R (l4 R x y).1 (l4 R x y).2⟩,⟨r1.1.trans hz,by omega,g1,r3,fun R x y=>h.2.2.2.2 R (r4 R x y).1 (r4 R x y).2⟩⟩
end
section
variable{P:Program}{f:FuncId}{R:z2y}{k:List Item}
theorem y23(N:Nat){A C:Code}{ops:Array Oper}{u:Bool}{st:St}{σ:Type}(I:σ→St)(J:σ→Prop)(h1:∀x,J x→Run P f R (.code (.seq (.region N ops u) C)::k) (I x))(h2:(∀x,J x→Run P f R (.code (.seq (.region N ops u) C)::k) (I x))→Run P f R (.code A::.code (.seq (.region N ops u) C)::k) st) :
 Run P f R (.code (.seq A (.seq (.region N ops u) C))::k) st:=y4w (h2 h1)
theorem y1u(N:Nat){A B C:Code}{ops:Array Oper}{u:Bool}{st:St}{σ:Type}(I:σ→St)(J:σ→Prop)(h1:∀x,J x→Run P f R (.code (.seq (.seq (.region N ops u) B) C)::k) (I x))(h2:(∀x,J x→Run P f R (.code (.seq (.seq (.region N ops u) B) C)::k) (I x))→Run P f R (.code A::.code (.seq (.seq (.region N ops u) B) C)::k) st) :
 Run P f R (.code (.seq A (.seq (.seq (.region N ops u) B) C))::k) st:=y4w (h2 h1)
end
theorem ybn(z:Nat)(hz:z≤100000000):∀(n a b:Nat) (lim:Int) (d:Array Int),b-a≤n→a≤b→b≤z→d.size=z→0≤lim→lim≤1000→Go.Sort.Below Go.Sort.ltInt a b d →
 z0u prog 133 [.ref (0,1000),I .i64 (a:Nat),I .i64 (b:Nat),I .i64 lim] [((0,1000),rwA d)] [((0,1000),rwA (sr a b d))] (.tup []):=by
 intro n
 induction n using Nat.strongRecOn with
 | _ n IH =>
 intro a b lim d hn hab hb hd hl0 hl1 hB
 obtain⟨S,hS⟩:∃S,sr a b d=S:=⟨_,rfl⟩
 have hO:Okd a b z S d:=⟨hd,hb,hab,hB,fun R h1 h2=>(y0w hab (by omega) h1 h2).trans hS⟩
 rw[hS]
 refine z0v fun H hH=>?_
 have hX:H 0 1000=some (rwA d):=hH ((0,1000),rwA d) (by simp)
 refine z05 func133 (by kernel_rfl) rfl (by simp) ?_
 dsimp only[f133]
 refine z1k 1000 0 1000 hX rfl rfl ?_
 repeat' first|refine z04 ?_|fail
 refine z0f ?_
 refine z00 (z0s (fun q:(Nat × Nat × Int) × Bool × Bool × Array Int=>⟨134,[(0,.ref (0,1000)),(1,I .i64 (q.1.1:Nat)),(2,I .i64 (q.1.2.1:Nat)),(3,I .i64 q.1.2.2),(8,B q.2.1),(9,B q.2.2.1),(101000,.al (0,1000) (1,1000))],[(1000,rwA q.2.2.2)],upd H (0,1000) .gone⟩) (fun q=>Okd q.1.1 q.1.2.1 z S q.2.2.2∧q.1.2.1-q.1.1≤n∧0≤q.1.2.2∧q.1.2.2≤1000) (fun q=>q.1.2.1-q.1.1) ?_ ((a,b,lim),true,true,d) ⟨hO,hn,hl0,hl1⟩) rfl rfl
 clear hO hB hX hS hd hb hab hl0 hl1 hn
 clear hH
 rintro⟨⟨a,b,lim⟩,wb,wp,d⟩ ⟨o,i1,i2,i3⟩ ih
 simp only at o i1 i2 i3 ih⊢
 obtain⟨o1,o2,o3,-,-⟩:=id o
 by_cases c12:b≤a+12
 ·have hi:=ybv a b d o3 (by omega) (by omega)
  rw[ya5 o]at hi
  exact zD67
 by_cases c0:lim=0
 ·have hi:=y7g a b d (by omega) (by omega) (by omega)
  obtain⟨p1,p2⟩:=Go.Sort.heapSort_holds Go.Sort.swo_ltInt d a b o3 (by omega)
  rw[o.2.2.2.2 _ p1 p2]at hi
  exact zD67
 repeat' first|(apply z7n;(refine y23 10 (σ:=Int × Array Int) (fun q=>⟨134,[(0,.ref (0,1000)),(1,I .i64 (a:Nat)),(2,I .i64 (b:Nat)),(3,I .i64 q.1),(8,B wb),(9,B wp),(10,I .i64 ((b:Nat)-(a:Nat))),(101000,.al (0,1000) (1,1000))],[(1000,rwA q.2)],upd H (0,1000) .gone⟩) (fun q=>Okd a b z S q.2∧0≤q.1∧q.1≤1000) ?_ ?_))|(apply z0t;refine z07 (z1i z1e) rfl rfl ?_)|refine z04 ?_|refine fk (fun _=>?_) fun _=>?_
 all_goals try omega
 ·rintro⟨lim,d⟩ ⟨o,i2,i3⟩
  simp only at o i2 i3⊢
  obtain⟨o1,-,-,-,-⟩:=id o
  obtain⟨p,h,hp,hc⟩:=zzy d a b (by omega) (by omega) (by omega)
  replace hc:=zxx hc
  repeat' first|(apply z7n;(refine y1u 15 (σ:=Nat × Int × Array Int) (fun q=>⟨134,[(0,.ref (0,1000)),(1,I .i64 (a:Nat)),(2,I .i64 (b:Nat)),(3,I .i64 lim),(8,B wb),(9,B wp),(10,I .i64 ((b:Nat)-(a:Nat))),(11,I .i64 (q.1:Nat)),(12,I .i64 q.2.1),(101000,.al (0,1000) (1,1000))],[(1000,rwA q.2.2)],upd H (0,1000) .gone⟩) (fun q=>Okd a b z S q.2.2∧a≤q.1∧q.1<b) ?_ ?_))|(apply z06;refine z4u hc ?_)|refine z04 ?_|fail
  ·clear hc hp o o1
   rintro⟨p,h,d⟩ ⟨o,p1,p2⟩
   simp only at o p1 p2⊢
   repeat' first|(apply z7n;(refine y1u 17 (σ:=Array Int) (fun q=>⟨134,[(0,.ref (0,1000)),(1,I .i64 (a:Nat)),(2,I .i64 (b:Nat)),(3,I .i64 lim),(8,B wb),(9,B wp),(10,I .i64 ((b:Nat)-(a:Nat))),(11,I .i64 (p:Nat)),(101000,.al (0,1000) (1,1000))],[(1000,rwA q)],upd H (0,1000) .gone⟩) (fun q=>Okd a b z S q) ?_ ?_))
   ·clear o
    rintro d o
    obtain⟨o1,o2,-,-,-⟩:=id o
    have gp:d.toList[((p:Nat):Int).toNat]? =some d[p]!:=z2e rfl (by omega)
    by_cases cp:0<a∧¬d[a-1]!<d[p]!
    ·have gm:d.toList[((a:Nat)-1:Int).toNat]? =some d[a-1]!:=z2e (by omega) (by omega)
     have hc:=z1c d[a-1]! d[p]!
     rw[zAo cp.2]at hc
     have hi:=zye d a b p p1 p2 (by omega) (by omega)
     obtain⟨r,hx⟩:∃r,Go.Sort.partitionEqual Go.Sort.ltInt d a b p=r:=⟨_,rfl⟩
     rw[hx]at hi
     obtain⟨mid,d4⟩:=r
     obtain⟨e1,e2⟩:=y81 o cp.1 p1 p2 (zAo cp.2) hx
     have hk:=ih ((mid,b,lim),wb,wp,d4) ⟨e2,by simp only;omega,i2,i3⟩ (by simp only;have:=e2.2.2.1;omega)
     simp only at hi hk
     clear ih
     repeat' first|(apply z7n;(exact z00 hk rfl rfl))|(apply z0b;first|refine z0c (z0e (u:=z1b d[p]!) gp) rfl rfl ?_| refine z0c (z0e (u:=z1b d[a-1]!) gm) rfl rfl ?_)|(apply z02;refine z0c (z1a rfl (by simp only[zA4,zAe];omega)) rfl rfl ?_)|(apply z19;refine z0c (z1i z1e) rfl rfl ?_)|(apply z06;refine z4u hi ?_)|(apply z0l;refine z3t hc ?_)|refine z04 ?_|(refine z13 (fun hg=>?_) (fun hg=>?_)<;> simp only[hg] <;> (try simp only[zA3,zA5,zA6,zA8]at hg))
     all_goals try omega
    ·refine y23 20 (σ:=Unit) (fun q=>⟨134,[(0,.ref (0,1000)),(1,I .i64 (a:Nat)),(2,I .i64 (b:Nat)),(3,I .i64 lim),(8,B wb),(9,B wp),(10,I .i64 ((b:Nat)-(a:Nat))),(11,I .i64 (p:Nat)),(101000,.al (0,1000) (1,1000))],[(1000,rwA d)],upd H (0,1000) .gone⟩) (fun q=>True) ?_ ?_
     ·intro _ _
      have hi:=y8c d a b p p1 p2 (by omega) (by omega)
      obtain⟨r,hx⟩:∃r,Go.Sort.partition Go.Sort.ltInt d a b p=r:=⟨_,rfl⟩
      rw[hx]at hi
      obtain⟨mid,ap,d4⟩:=r
      obtain⟨e1,e2,e3,e4,e5,e6,e7⟩:=zz1 o p1 p2 hx
      simp only at hi
      by_cases cl:(mid:Int)-(a:Nat)<(b:Nat)-(mid:Nat)
      ·have hr:=IH (mid-a) (by omega) a mid lim d4 (zAj _) e1 (by omega) e3 i2 i3 e4
       have hk:=ih ((mid+1,b,lim),decide ((mid:Int)-(a:Nat)≥((b:Nat)-(a:Nat)) / 8),ap,sr a mid d4) ⟨e6,by simp only;omega,i2,i3⟩ (by simp only;omega)
       simp only at hk
       rw[show((mid+1:Nat):Int)=(mid:Nat)+1 by omega]at hk
       clear ih IH
       generalize sr a mid d4=d5 at *
       all_goals exact zD57
      ·have hr:=IH (b-(mid+1)) (by omega) (mid+1) b lim d4 (zAj _) e2 (by omega) e3 i2 i3 e5
       have hk:=ih ((a,mid,lim),decide ((b:Int)-(mid:Nat)≥((b:Nat)-(a:Nat)) / 8),ap,sr (mid+1) b d4) ⟨e7,by simp only;omega,i2,i3⟩ (by simp only;omega)
       simp only at hk
       rw[show((mid+1:Nat):Int)=(mid:Nat)+1 by omega]at hr
       clear ih IH
       generalize sr (mid+1) b d4=d5 at *
       all_goals exact zD57
     ·intro hk
      have hk:=hk () trivial
      clear ih IH
      by_cases ca:a=0
      ·have hc:=z1c 0 0
       repeat' first|(apply z7n;(exact z00 hk rfl rfl))|(apply z19;refine z0c (z1i z1e) rfl rfl ?_)|refine z04 ?_|(refine z13 (fun hg=>?_) (fun hg=>?_)<;> simp only[hg] <;> (try simp only[zA3,zA5,zA6,zA8]at hg))
       all_goals try omega
      ·have gm:d.toList[((a:Nat)-1:Int).toNat]? =some d[a-1]!:=z2e (by omega) (by omega)
       have cq:d[a-1]!<d[p]!:=by
        apply Classical.byContradiction
        intro g
        exact cp ⟨by omega,g⟩
       have hc:=z1c d[a-1]! d[p]!
       rw[zAi cq]at hc
       repeat' first|(apply z7n;(exact z00 hk rfl rfl))|(apply z0b;first|refine z0c (z0e (u:=z1b d[p]!) gp) rfl rfl ?_| refine z0c (z0e (u:=z1b d[a-1]!) gm) rfl rfl ?_)|(apply z02;refine z0c (z1a rfl (by simp only[zA4,zAe];omega)) rfl rfl ?_)|(apply z19;refine z0c (z1i z1e) rfl rfl ?_)|(apply z0l;refine z3t hc ?_)|refine z04 ?_|(refine z13 (fun hg=>?_) (fun hg=>?_)<;> simp only[hg] <;> (try simp only[zA3,zA5,zA6,zA8]at hg))
       all_goals try omega
   ·intro hk
    by_cases hc:wb=true∧wp=true∧h=1
    ·obtain⟨rfl,rfl,rfl⟩:=hc
     obtain⟨o1,-,-,o4,o5⟩:=id o
     have hi:=zwa d a b (by omega) (by omega) (by omega)
     obtain⟨q1,q2⟩:=Go.Sort.partialInsertionSort_holds Go.Sort.swo_ltInt d a b (by omega) (by omega) o4
     generalize Go.Sort.partialInsertionSort Go.Sort.ltInt d a b=r at *
     obtain⟨d',bb⟩:=r
     simp only at hi q1 q2
     cases bb with
     | true =>
      have e:=o5 _ q1 (q2 rfl)
      subst e
      clear hk ih
      repeat' first|(apply z06;refine z4u hi ?_)|refine z04 ?_|fail
      all_goals try omega
      refine z3a (raw:=rwA d') 1000 0 1000 ?_
      refine z03 func133 _ (z2o rfl) ⟨rfl,?_⟩
      simp[z6j,z1m]
     | false =>
      have hk:=hk d' (zhq o q1)
      clear ih q2 o5
      repeat' first|(apply z7n;(exact z00 hk rfl rfl))|(apply z06;refine z4u hi ?_)|refine z04 ?_|fail
      all_goals try omega
    ·have hk:=hk d o
     clear ih
     by_cases h1:h=1
     ·subst h1
      cases wb with
      | true =>
       cases wp with
       | true=>exact absurd ⟨rfl,rfl,rfl⟩ hc
       | false =>
        all_goals exact zD142
      | false =>
       all_goals exact zD142
     ·clear hc
      have hf:decide (h=1)=false:=zAo h1
      cases wb <;> cases wp
      all_goals skip
      all_goals exact zD119
  ·intro hk
   clear ih
   by_cases h2:h=2
   ·subst h2
    have hr:=Go.Sort.reverseRange_holds d a b (by omega) (by omega)
    have hi:=zui d a b (by omega) (by omega) (by omega)
    have hk:=hk (b-1-(p-a),1,Go.Sort.reverseRange d a b) ⟨zhq o hr,by simp only;omega,by simp only;omega⟩
    simp only at hk
    rw[show((b-1-(p-a):Nat):Int)=(b:Nat)-1-((p:Nat)-(a:Nat)) by omega]at hk
    generalize Go.Sort.reverseRange d a b=d' at *
    all_goals exact zD99
   ·have hk:=hk (p,h,d) ⟨o,hp.1,hp.2⟩
    simp only at hk
    all_goals exact zD119
 ·intro hk
  clear ih
  cases wb with
  | true =>
   have hk:=hk (lim,d) ⟨o,i2,i3⟩
   simp only at hk
   repeat' first|(apply z7n;(exact z00 hk rfl rfl))|refine z04 ?_|fail
  | false =>
   obtain⟨n0,rfl⟩:∃n0,b=a+n0:=⟨b-a,by omega⟩
   obtain⟨d',q1,hi⟩:=y3s d a n0 (by omega) (by omega) (by omega)
   have hk:=hk (lim-1,d') ⟨zhq o q1,by simp only;omega,by simp only;omega⟩
   simp only at hk
   all_goals exact zD99
theorem zff(n:Nat)(hn:n≤100000000):zdo n:=fun M hm=>by
 refine z0v fun H hH=>?_
 have hH0:=hH ((0,1000),.row 21 1 (M.map rcc)) (by simp)
 have hb:=zk0 M.length (by omega) (by omega)
 have hl:Lib.bitLen ((M.length:Int)).toNat≤64:=Lib.bitLen_le _ 64 (by omega) (by omega)
 have hp:=ybn M.length (by omega) M.length 0 M.length (Lib.bitLen ((M.length:Int)).toNat) M.toArray (by omega) (by omega) (zAj _) (by simp) (by omega) (by omega) (.inl rfl)
 rw[rwA,rwA,y7y]at hp
 refine z05 func93 (by kernel_rfl) rfl (by simp) ?_
 dsimp only[f93]
 refine z1k 1000 0 1000 hH0 rfl rfl ?_
 repeat' first|(apply z14;refine z07 (z18 rfl) rfl rfl ?_)|(apply z06;first|refine z1o hb ?_| refine z4u hp ?_)|(apply z4q;refine z07 (z8u rfl rfl (zr4 (by omega) (by omega))) rfl rfl ?_)|refine z04 ?_|fail
 all_goals try omega
 refine z3a (raw:=.row 21 1 ((srt M).map rcc)) 1000 0 1000 ?_
 refine ze8 func93 _ (z2o rfl) ⟨rfl,?_⟩
 simp[z6j,z1m]
end Go.Proofs.YtmcggompdmngmaaGreatDoor
