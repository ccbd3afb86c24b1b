/- A part of the proof: Shb to A29. -/
import Derived.Test.YtmcggompdmngmaaGreatDoorYc
import Derived.Shelf.Small.Bits
import Derived.Test.YtmcggompdmngmaaGreatDoorProg
import Derived.Test.YtmcggompdmngmaaGreatDoorY1
import Derived.Test.YtmcggompdmngmaaGreatDoorYy
import Derived.Test.YtmcggompdmngmaaGreatDoorYs
import Derived.ArgAppend
import Derived.Test.YtmcggompdmngmaaGreatDoorYq
import Derived.Test.YtmcggompdmngmaaGreatDoorY3
import Derived.Test.YtmcggompdmngmaaGreatDoorYr
import Derived.Test.YtmcggompdmngmaaGreatDoorYv
set_option linter.all false
namespace Go.Proofs.YtmcggompdmngmaaGreatDoor
open Go.Proofs
open Go.Shelf
def zk7:Go.Shelf.Ren:=⟨fun|125=>122|128=>159|129=>160|n=>n,fun|46=>169|3=>3|51=>234|53=>108|4=>4|5=>5|9=>9|n=>n,fun|n=>n⟩
theorem y5o:Go.Proofs.Lays.n125 Tryz.prog zk7:={
 mixed:=by kernel_rfl
 f125:=Tryz.func122.trans (congrArg some (by kernel_rfl))
 f128:=Tryz.func159.trans (congrArg some (by kernel_rfl))
 f129:=Tryz.func160.trans (congrArg some (by kernel_rfl))
 t3:=Tryz.underlying3
 a3:=Tryz.isAgg3
 z3:=Tryz.sizeOf3
 v3:=Tryz.zeroValue3
 t4:=Tryz.underlying4
 a4:=Tryz.isAgg4
 z4:=Tryz.sizeOf4
 v4:=Tryz.zeroValue4
 t5:=Tryz.underlying5
 a5:=Tryz.isAgg5
 z5:=Tryz.sizeOf5
 v5:=Tryz.zeroValue5
 t9:=Tryz.underlying9
 a9:=Tryz.isAgg9
 z9:=Tryz.sizeOf9
 v9:=Tryz.zeroValue9
 t46:=Tryz.underlying169
 a46:=Tryz.isAgg169
 z46:=Tryz.sizeOf169
 v46:=Tryz.zeroValue169
 t51:=Tryz.underlying234
 a51:=Tryz.isAgg234
 z51:=Tryz.sizeOf234
 v51:=Tryz.zeroValue234
 t53:=Tryz.underlying108
 a53:=Tryz.isAgg108
 z53:=Tryz.sizeOf108
 v53:=Tryz.zeroValue108 }
theorem bits_Len (x:Int) (w:World) (h0:0≤x) (h1:x≤18446744073709551615) :
 Calls Tryz.prog 122 #[.int .u64 x] w fun e w'=>e=.returned (.int .i64 (Lib.bitLen x.toNat))∧w'=w:=Any.bits_Len y5o x w h0 h1
end Go.Proofs.YtmcggompdmngmaaGreatDoor
namespace Go.Proofs.YtmcggompdmngmaaGreatDoor
open Go.Ab Go.Ax
set_option maxHeartbeats 20000000
set_option maxRecDepth 100000
attribute [local irreducible] Run Ops Op1 z0u Val Tr z09 z0q NF Rel z1v z1u
abbrev rcc (x:Int):List D:=[z11 x]
theorem z15 (a b:Int):z09 Tryz.prog 175 [I .i32 a,I .i32 b] (B (decide (a<b))):=by
 refine z0t fun H=>?_
 have h1:=zun a
 have h2:=zun b
 refine z06 Tryz.func175 (by kernel_rfl) rfl (by simp) ?_
 dsimp only[Tryz.f175]
 repeat' (first|(apply z03;(refine z1n h1 ?_))|refine z01 ?_|fail)
 all_goals try (exfalso;omega)
 all_goals exact z02 Tryz.func175 _ z1d ⟨rfl,rfl⟩
theorem zjt {l A B:List Int} {y:Int} {i:Nat} (h:l=A++y::B) (hi:i=A.length):l[i]? =some y:=by subst h hi;simp
theorem zs0 {l A B:List Int} {y z:Int} {i:Nat} (h:l=A++y::B) (hi:i=A.length):l.set i z=A++z::B:=by subst h hi;simp
theorem zw5 (P M T:List Int) (a b:Int) (ha:a=P.length) (hb:b=P.length+M.length) (hlen:P.length+M.length≤200000000) :
 z0q Tryz.prog 169 [.ref (0,1000),I .i64 a,I .i64 b] [((0,1000),.row 21 1 ((P++(M++T)).map rcc))] [((0,1000),.row 21 1 ((P++(srt M++T)).map rcc))] (.tup []):=by
 refine z0v fun H hH=>?_
 have hH0:=hH ((0,1000),.row 21 1 ((P++(M++T)).map rcc)) (by simp)
 refine z06 Tryz.func169 (by kernel_rfl) rfl (by simp) ?_
 dsimp only[Tryz.f169]
 refine z1g 1000 0 1000 hH0 rfl rfl ?_
 repeat' (first|(apply z0o;(refine z08 (z18 z16) rfl rfl ?_))|refine z01 ?_|fail)
 all_goals try (exfalso;omega)
 refine z0d ?_
 rw[show P++(M++T)=P++(M.take 1++(M.drop 1++T)) by cases M <;> rfl]
 refine z00 (z0p (fun q:Int × List Int × List Int=>⟨49,[(0,.ref (0,1000)),(1,I .i64 a),(2,I .i64 b),(6,I .i64 q.1),(101000,.al (0,1000) (1,1000))],[(1000,.row 21 1 ((P++(q.2.1++(q.2.2++T))).map rcc))],upd H (0,1000) .gone⟩) (fun q=>(q.2.1++q.2.2).Perm M∧q.2.1.Pairwise (· ≤·)∧((M=[]∧q.1=a+1)∨(0<q.2.1.length∧q.1=a+q.2.1.length))) (fun q=>q.2.2.length) ?_ (a+1,M.take 1,M.drop 1) ⟨by rw[List.take_append_drop],by cases M <;> simp,by cases M with
  | nil=>exact .inl ⟨rfl,rfl⟩
  | cons x M=>exact .inr ⟨by simp,by simp⟩⟩) rfl rfl
 rintro⟨i,A,R⟩ ⟨hp,hasc,hi⟩ ih
 simp only at hp hasc hi ih ⊢
 have hlA:=hp.length_eq
 simp only[zAa] at hlA
 cases R with
 | nil =>
  simp only[List.length_nil] at hlA
  rw[List.append_nil] at hp
  have hib:¬ i<b:=by
   rcases hi with ⟨h0,h⟩|⟨h,h'⟩
   · have:=congrArg List.length h0
     simp only[List.length_nil] at this;omega
   · omega
  rw[y1b hp.symm hasc]
  repeat' (first|refine z01 ?_|refine fk (fun _=>?_) (fun _=>?_))
  all_goals try (exfalso;omega)
  refine z2z (raw:=.row 21 1 ((P++(A++([]++T))).map rcc)) 1000 0 1000 ?_
  refine z8e Tryz.func169 _ (z1o rfl) ⟨rfl,?_⟩
  simp[z6b,z1i]
 | cons y R =>
  have hi2:i=a+A.length:=by
   rcases hi with ⟨rfl,h⟩|⟨h,h'⟩
   · simp at hlA
   · exact h'
  have hA0:0<A.length:=by
   rcases hi with ⟨rfl,h⟩|⟨h,h'⟩
   · simp at hlA
   · exact h
  simp only[zAk] at hlA
  repeat' (first|refine z01 ?_|refine fk (fun _=>?_) (fun _=>?_))
  all_goals try (exfalso;omega)
  refine z0d ?_
  rw[show P++(A++(y::R++T))=P++(A++(y::([]++(R++T)))) by simp]
  refine z00 (z0p (fun q:Int × List Int × List Int=>⟨49,[(0,.ref (0,1000)),(1,I .i64 a),(2,I .i64 b),(6,I .i64 i),(7,I .i64 q.1),(101000,.al (0,1000) (1,1000))],[(1000,.row 21 1 ((P++(q.2.1++(y::(q.2.2++(R++T))))).map rcc))],upd H (0,1000) .gone⟩) (fun q=>q.2.1++q.2.2=A∧q.1=a+q.2.1.length∧∀ s∈q.2.2,y≤s) (fun q=>q.2.1.length) ?_ (i,A,[]) ⟨by simp,by simp only;omega,by simp⟩) rfl rfl
  rintro⟨j,S1,S2⟩ ⟨hS,hj,hS2⟩ ih2
  simp only at hS hj hS2 ih2 ⊢
  have hlS:=congrArg List.length hS
  simp only[zAa] at hlS
  have done:(∀ z∈S1,z≤y)→((S1++y::S2)++R).Perm M∧(S1++y::S2).Pairwise (· ≤·):=fun h=>by
   refine⟨.trans ?_ hp,y8g (by rw[hS];exact hasc) h hS2⟩
   rw[← hS]
   have:(S1++y::S2).Perm (S1++S2++[y]):=by
    rw[zAl]
    exact List.Perm.append_left S1 (List.perm_append_singleton y S2).symm
   refine(this.append_right R).trans ?_
   simp
  rcases Go.Ab.zj4 S1 with rfl|⟨S1,s,rfl⟩
  · have hja:¬ j>a:=by simp at hj;omega
    obtain⟨d1,d2⟩:=done (by simp)
    have ih':=ih (i+1,[]++y::S2,R) ⟨d1,d2,.inr ⟨by simp,by simp only[zAa,zAk,List.length_nil] at *;omega⟩⟩ (by simp)
    simp only[zAl,List.cons_append] at ih'
    repeat' (first|refine z01 ?_|(refine z19 (fun hg=>?_) (fun hg=>?_)<;> simp only[hg] <;> (try simp only[zA3,zA5,zA6,zA8] at hg)))
    all_goals try (exfalso;omega)
    exact z00 ih' rfl rfl
  · simp only[zAa,zAk,List.length_nil] at hj hlS
    have e0:P++(S1++[s]++(y::(S2++(R++T))))=(P++(S1++[s]))++y::(S2++(R++T)):=by simp
    have e1:P++(S1++[s]++(y::(S2++(R++T))))=(P++S1)++s::(y::(S2++(R++T))):=by simp
    have hy:(P++(S1++[s]++(y::(S2++(R++T)))))[j.toNat]? =some y:=zjt e0 (by simp;omega)
    have hs:(P++(S1++[s]++(y::(S2++(R++T)))))[(j-1).toNat]? =some s:=zjt e1 (by simp;omega)
    have hs1:(P++(S1++[s]++(y::(S2++(R++T))))).set j.toNat s=(P++S1)++s::(s::(S2++(R++T))):=(zs0 e0 (by simp;omega)).trans (by simp)
    have hz:((P++S1)++s::(s::(S2++(R++T))))[(j-1).toNat]? =some s:=zjt rfl (by simp;omega)
    have hs2:((P++S1)++s::(s::(S2++(R++T)))).set (j-1).toNat y=P++(S1++(y::(s::S2++(R++T)))):=(zs0 rfl (by simp;omega)).trans (by simp)
    have hc:=z15 y s
    by_cases hsy:y<s
    · rw[zAi hsy] at hc
      have ih':=ih2 (j-1,S1,s::S2) ⟨by rw[← hS];simp,by simp only;omega,fun z hz=>by
       rw[zAc] at hz
       rcases hz with rfl|hz
       · omega
       · exact hS2 z hz⟩ (by simp)
      repeat' (first|(apply z0c;(first|refine z0f (z0i (u:=z11 y) hy) rfl rfl ?_| refine z0f (z0i (u:=z11 s) hs) rfl rfl ?_))|(apply z05;(refine z0f (z1c rfl (by simp;omega)) rfl rfl ?_))|(apply z0m;(refine z3z hc ?_))|(apply z0w;(first|refine z0g s (by first|exact rfl|exact⟨_,rfl,rfl,rfl⟩) rfl rfl rfl rfl hy rfl rfl rfl hs1 ?_|refine z0g y (by first|exact rfl|exact⟨_,rfl,rfl,rfl⟩) rfl rfl rfl rfl hz rfl rfl rfl hs2 ?_))|refine z01 ?_|(refine z19 (fun hg=>?_) (fun hg=>?_)<;> simp only[hg] <;> (try simp only[zA3,zA5,zA6,zA8] at hg)))
      all_goals try (exfalso;omega)
      exact z00 ih' rfl rfl
    · rw[zAo hsy] at hc
      obtain⟨d1,d2⟩:=done (fun z hz=>by
       have h1:(S1++[s]).Pairwise (· ≤·):=by rw[← hS,List.pairwise_append] at hasc;exact hasc.1
       have:=zvw h1 z hz
       omega)
      have ih':=ih (i+1,(S1++[s])++y::S2,R) ⟨d1,d2,.inr ⟨by simp only[zAa,zAk];omega,by simp only[zAa,zAk,List.length_nil] at *;omega⟩⟩ (by simp)
      simp only at ih'
      rw[show P++(S1++[s]++y::S2++(R++T))=P++(S1++[s]++(y::(S2++(R++T)))) by simp] at ih'
      repeat' (first|(apply z0c;(first|refine z0f (z0i (u:=z11 y) hy) rfl rfl ?_| refine z0f (z0i (u:=z11 s) hs) rfl rfl ?_))|(apply z05;(refine z0f (z1c rfl (by simp;omega)) rfl rfl ?_))|(apply z0m;(refine z3z hc ?_))|refine z01 ?_|(refine z19 (fun hg=>?_) (fun hg=>?_)<;> simp only[hg] <;> (try simp only[zA3,zA5,zA6,zA8] at hg)))
      all_goals try (exfalso;omega)
      exact z00 ih' rfl rfl
theorem zjc (x:Int) (h0:0≤x) (h1:x≤18446744073709551615):z09 Tryz.prog 122 [I .u64 x] (I .i64 (Lib.bitLen x.toNat)):=by
 refine z7x ⟨_,Tryz.func122,by kernel_rfl,by kernel_rfl⟩ fun β own w vals hA=>?_
 obtain⟨hl,ha⟩:=hA
 obtain⟨v,rfl⟩:∃ v,vals=[v]:=by
  match vals,hl with
  | [v],_=>exact⟨v,rfl⟩
 have hv:=PR.lit (ha 0 _ v rfl rfl)
 subst hv
 exact⟨_,bits_Len x w h0 h1,fun w' own'=>PR.I _ _⟩
theorem zif {l:List Int} {k:Nat} {x:Int} (h:l[k]? =some x):l.take (k+1)=l.take k++[x]:=by
 rw[List.take_add_one,h];rfl
theorem z8j {α:Type}:∀ (l zs:List α) (k:Nat),(z0b l k zs).take k=l.take k
 | [],[],k=>by simp[Ab.z0b]
 | [],z::zs,k=>by simp[Ab.z0b]
 | x::l,[],k=>by simp[Ab.z0b]
 | x::l,z::zs,0=>by simp
 | x::l,z::zs,k+1=>by
  have:z0b (x::l) (k+1) (z::zs)=x::z0b l k (z::zs):=by simp[Ab.z0b]
  rw[this,List.take_succ_cons,List.take_succ_cons,z8j l (z::zs) k]
theorem zaj {α β:Type} (g:α→β):∀ (l zs:List α) (k:Nat),z0b (l.map g) k (zs.map g)=(z0b l k zs).map g
 | [],[],k=>by simp[Ab.z0b]
 | [],z::zs,k=>by simp[Ab.z0b]
 | x::l,[],k=>by simp[Ab.z0b]
 | x::l,z::zs,0=>by
  have:=zaj g l zs 0
  simp only[List.map_cons] at this ⊢
  simp[Ab.z0b,this]
 | x::l,z::zs,k+1=>by
  have:=zaj g l (z::zs) k
  simp only[List.map_cons] at this ⊢
  simp[Ab.z0b,this]
theorem y7x {l m:List Int} {i:Nat} (h:l.drop i=m.drop i):l.drop (i+1)=m.drop (i+1):=by
 have:=congrArg (List.drop 1) h
 simpa[List.drop_drop] using this
theorem zu9 (l:List Int) (hl:l.length≤200000000):z0q Tryz.prog 94 [.ref (0,1000)] [((0,1000),.row 21 1 (l.map rcc))] [((0,1000),.gone)] (.d (.slice ((cpt l).map rcc))):=by
 refine z0v fun H hH=>?_
 have hH0:=hH ((0,1000),.row 21 1 (l.map rcc)) (by simp)
 refine z06 Tryz.func94 (by kernel_rfl) rfl (by simp) ?_
 dsimp only[Tryz.f94]
 refine z1g 1000 0 1000 hH0 rfl rfl ?_
 have fin:∀ {n:Nat} {tm:List (Nat × PV)} {hp:Hp} (q:List (List D)),q=(cpt l).map rcc→Ab.look tm 2=some (.d (.slice q))→Ab.look hp 1000=some .gone→True:=fun _ _ _ _=>trivial
 clear fin
 by_cases hs:l.length<2
 · have e1:cpt l=l:=by
    match l,hs with
    | [],_=>rfl
    | [x],_=>rfl
   rw[e1]
   exact zD85
 obtain⟨x0,hx0⟩:∃ x,l[0]? =some x:=⟨_,zA0 (by omega)⟩
 have hstart:cpt l=l.take 1++cq x0 (l.drop 1):=by
  cases l with
  | nil=>simp at hx0
  | cons x l=>simp at hx0;subst hx0;rfl
 repeat' (first|(apply z1k;(refine z08 (z3a rfl) rfl rfl ?_))|refine z01 ?_|refine fk (fun _=>?_) (fun _=>?_))
 all_goals try (exfalso;omega)
 refine z0d ?_
 refine z00 (z0p (fun q:Nat=>⟨61,[(0,.ref (0,1000)),(3,I .i64 ((q:Nat)+1:Int)),(101000,.al (0,1000) (1,1000))],[(1000,.row 21 1 (l.map rcc))],upd H (0,1000) .gone⟩) (fun q=>q+1≤l.length∧∃ x,l[q]? =some x∧cpt l=l.take (q+1)++cq x (l.drop (q+1))) (fun q=>l.length-q) ?_ 0 ⟨by omega,x0,hx0,hstart⟩) rfl rfl
 rintro k ⟨k1,x,hx,k2⟩ ih
 by_cases hlt:k+1<l.length
 · obtain⟨y,hy⟩:∃ y,l[k+1]? =some y:=⟨_,zA0 hlt⟩
   have hyi:l[((((k:Nat):Int)+1)).toNat]? =some y:=by rw[show (((k:Nat):Int)+1).toNat=k+1 by omega];exact hy
   have hxi:l[((((k:Nat):Int)+1)-1).toNat]? =some x:=by rw[show ((((k:Nat):Int)+1)-1).toNat=k by omega];exact hx
   rw[drop_cons hy,cq] at k2
   by_cases he:x=y
   · rw[zAz he] at k2
     have hsub:((((k:Nat):Int)+1)).toNat=k+1:=by omega
     clear ih
     repeat' (first|(apply z0c;(first|refine z0f (z0i (u:=z11 y) hyi) rfl rfl ?_| refine z0f (z0i (u:=z11 x) hxi) rfl rfl ?_))|(apply z05;(refine z0f (z1c rfl (by simp only[zA4];omega)) rfl rfl ?_))|(apply zkg;(refine z08 (zhy rfl (by omega) (by simp only[zA4];omega) rfl) rfl rfl ?_))|(apply z1k;(refine z08 (z3a rfl) rfl rfl ?_))|refine z01 ?_|refine fk (fun _=>?_) (fun _=>?_))
     all_goals try (exfalso;omega)
     refine z0d ?_
     have hln:(l.map rcc).length-((((k:Nat):Int)+1)).toNat=l.length-(k+1):=by rw[zA4,hsub]
     refine z00 (z0p (fun q:Nat × Nat × List Int=>⟨61,[(0,.ref (0,1000)),(3,I .i64 (q.1:Nat)),(4,.rsub (0,1000) 1 ((((k:Nat):Int)+1)).toNat ((l.map rcc).length-((((k:Nat):Int)+1)).toNat)),(5,I .i64 (q.2.1:Nat)),(101000,.al (0,1000) (1,1000))],[(1000,.row 21 1 (q.2.2.map rcc))],upd H (0,1000) .gone⟩) (fun q=>q.2.2.length=l.length∧k+1≤q.1∧q.1+1≤k+1+q.2.1∧1≤q.2.1∧k+1+q.2.1≤l.length∧q.2.2.drop (k+q.2.1)=l.drop (k+q.2.1)∧∃ z,l[k+q.2.1]? =some z∧cpt l=q.2.2.take q.1++cq z (l.drop (k+1+q.2.1))) (fun q=>l.length-q.2.1) ?_ (k+1,1,l) ⟨rfl,zAj _,by simp only;omega,zAj _,by simp only;omega,rfl,y,hy,k2⟩) rfl rfl
     rintro⟨a,b,r⟩ ⟨r1,r2,r3,r4,r5,r6,z,hz,r7⟩ ih
     simp only at r1 r2 r3 r4 r5 r6 hz r7 ih ⊢
     have hget:∀ i,k+b≤i→r[i]? =l[i]?:=fun i hi=>by
      have:=congrArg (fun m=>m[i-(k+b)]?) r6
      simp only[List.getElem?_drop] at this
      rwa [show k+b+(i-(k+b))=i by omega] at this
     by_cases hlb:k+1+b<l.length
     · obtain⟨u,hu⟩:∃ u,l[k+1+b]? =some u:=⟨_,zA0 hlb⟩
       have hui:r[((((k:Nat):Int)+1)).toNat+((b:Nat):Int).toNat]? =some u:=by rw[hsub,zA9,hget _ (by omega)];exact hu
       have hzi:r[((((k:Nat):Int)+1)).toNat+(((b:Nat):Int)-1).toNat]? =some z:=by rw[hsub,show k+1+(((b:Nat):Int)-1).toNat=k+b by omega,hget _ (by omega)];exact hz
       rw[drop_cons hu,cq] at r7
       have hai:∃ v,r[((a:Nat):Int).toNat]? =some v:=⟨_,zA0 (by omega)⟩
       obtain⟨v,hv⟩:=hai
       by_cases hzu:z=u
       · rw[zAz hzu] at r7
         have ih':=ih (a,b+1,r) ⟨r1,r2,by simp only;omega,by simp only;omega,by simp only;omega,by simp only;rw[← Nat.add_assoc];exact y7x r6,u,by rw[show k+(b+1)=k+1+b by omega];exact hu,by simp only;rw[r7,show k+1+(b+1)=k+1+b+1 by omega]⟩ (by simp only;omega)
         repeat' (first|(apply z13;(refine z08 (z0i (u:=z11 u) hui) rfl rfl ?_))|(apply z0c;(first|refine z0f (z0i (u:=z11 u) hui) rfl rfl ?_| refine z0f (z0i (u:=z11 z) hzi) rfl rfl ?_))|(apply z04;(refine z08 (z9e rfl (by omega) (by rw[hln];omega) (by rw[hln,hsub,zA4,r1];omega) rfl) rfl rfl ?_))|(apply z05;(refine z0f (z9e rfl (by omega) (by rw[hln];omega) (by rw[hln,hsub,zA4,r1];omega) rfl) rfl rfl ?_))|(apply z1k;(refine z08 (zgb rfl) rfl rfl ?_))|refine z01 ?_|refine fk (fun _=>?_) (fun _=>?_))
         all_goals exact zD8
       · rw[zAy hzu] at r7
         have hset:r.set ((a:Nat):Int).toNat u=r.set a u:=by rw[zA9]
         have ih':=ih (a+1,b+1,r.set a u) ⟨by simp[r1],by simp only;omega,by simp only;omega,by simp only;omega,by simp only;omega,by
          simp only
          rw[List.drop_set_of_lt (by omega),← Nat.add_assoc];exact y7x r6,u,by rw[show k+(b+1)=k+1+b by omega];exact hu,by
          simp only
          rw[zif (x:=u) (by rw[zAp (by omega)]),List.take_set_of_le (zAj _),r7,show k+1+(b+1)=k+1+b+1 by omega]
          simp⟩ (by simp only;omega)
         repeat' (first|(apply z13;(refine z08 (z0i (u:=z11 u) hui) rfl rfl ?_))|(apply z0c;(first|refine z0f (z0i (u:=z11 u) hui) rfl rfl ?_| refine z0f (z0i (u:=z11 z) hzi) rfl rfl ?_))|(apply z04;(first|refine z08 (z1c rfl (by simp only[zA4];omega)) rfl rfl ?_| refine z08 (z9e rfl (by omega) (by rw[hln];omega) (by rw[hln,hsub,zA4,r1];omega) rfl) rfl rfl ?_))|(apply z05;(refine z0f (z9e rfl (by omega) (by rw[hln];omega) (by rw[hln,hsub,zA4,r1];omega) rfl) rfl rfl ?_))|(apply z1k;(refine z08 (zgb rfl) rfl rfl ?_))|(apply z1q;(refine zch u hv hset ?_))|refine z01 ?_|refine fk (fun _=>?_) (fun _=>?_))
         all_goals exact zD8
     · have hbe:k+1+b=l.length:=by omega
       rw[List.drop_eq_nil_of_le (by omega),cq,List.append_nil] at r7
       have hspl:z0b (r.map rcc) ((a:Nat):Int).toNat (List.replicate ((r.map rcc).length-((a:Nat):Int).toNat) [.lit (.int .i32 0)])=(z0b r a (List.replicate (r.length-a) 0)).map rcc:=by
        rw[zA9,zA4,show ([.lit (.int .i32 0)]:List D)=rcc 0 from rfl,← List.map_replicate,zaj]
       have hres:(z0b r a (List.replicate (r.length-a) 0)).take ((a:Nat):Int).toNat=cpt l:=by
        rw[zA9,z8j,← r7]
       have hlen2:(z0b r a (List.replicate (r.length-a) 0)).length=r.length:=z0k _ _ _
       generalize z0b r a (List.replicate (r.length-a) 0)=r2 at *
       repeat' (first|(apply z10;((refine y5a (e:=21) (z0:=.int .i32 0) rfl (z6n (by kernel_rfl)) rfl rfl rfl (by simp only[zA4];omega) ?_;rw[hspl];refine zml 1000 rfl ?_)))|(apply zkg;(first|refine z08 (zhy rfl (by omega) (by simp only[zA4];omega) rfl) rfl rfl ?_| refine z08 (zcc (g:=rcc) rfl (by omega) (by omega) (fun _=>rfl)) rfl rfl ?_))|(apply z1k;(refine z08 (zgb rfl) rfl rfl ?_))|refine z01 ?_|refine fk (fun _=>?_) (fun _=>?_))
       all_goals try (exfalso;rw[hln] at *;omega)
       all_goals (rw[← hres];exact z02 Tryz.func94 _ z1d ⟨rfl,rfl⟩)
   · rw[zAy he] at k2
     have ih':=ih (k+1) ⟨by omega,y,hy,by rw[zif hy,k2];simp⟩ (by omega)
     repeat' (first|(apply z0c;(first|refine z0f (z0i (u:=z11 y) hyi) rfl rfl ?_| refine z0f (z0i (u:=z11 x) hxi) rfl rfl ?_))|(apply z05;(refine z0f (z1c rfl (by simp only[zA4];omega)) rfl rfl ?_))|(apply z1k;(refine z08 (z3a rfl) rfl rfl ?_))|refine z01 ?_|refine fk (fun _=>?_) (fun _=>?_))
     all_goals exact zD8
 · have hke:k+1=l.length:=by omega
   rw[hke,zAs,cq,List.append_nil,List.take_length] at k2
   rw[k2]
   exact zD85
open Go.Ab Go.Ax Go.Rx
def zlq (n:Nat):Prop:=∀ M:List Int,M.length≤n→z0q Tryz.prog 93 [.ref (0,1000)] [((0,1000),.row 21 1 (M.map rcc))] [((0,1000),.row 21 1 ((srt M).map rcc))] (.tup [])
def ends (r:List Rg):List Int:=r.flatMap fun x=>[x.1,x.2+1]
def z4q (L:List (List Rg)):List Int:=[0,1114112]++L.flatMap ends
def zal (L:List (List Rg)):List Int:=cpt (srt (z4q L))
theorem y7u {N:Nat} (hS:zlq N) (L:List (List Rg)) (hN:(z4q L).length≤N) (hN2:N≤200000000) (hr:∀ r∈L,∀ x∈r,0≤x.1∧x.1≤1114111∧0≤x.2∧x.2≤1114111) (hl:L.length≤200000000) (hl2:∀ r∈L,r.length≤200000000) :
 z09 Tryz.prog 56 [.d (lvs L)] (.d (.slice ((zal L).map rcc))):=by
 refine z0t fun H=>?_
 have hss:=hS (z4q L) hN
 have hcc:=zu9 (srt (z4q L)) (by rw[zti];omega)
 refine z06 Tryz.func56 (by kernel_rfl) rfl (by simp) ?_
 dsimp only[Tryz.f56]
 repeat' (first|(apply y2e;(refine y19 rfl rfl rfl rfl rfl rfl rfl rfl rfl (by decide) ?_))|refine z01 ?_|fail)
 refine z2y 8 1000 ?_
 refine z0d ?_
 refine z00 (z0p (fun q:Nat × List Int=>⟨35,[(3,.ref (0,1000)),(9,.d (lvs L)),(10,I .i64 L.length),(11,I .i64 (q.1:Nat))],[(1000,.row 21 1 (q.2.map rcc))],H⟩) (fun q=>q.1≤L.length∧q.2++(L.drop q.1).flatMap ends=z4q L) (fun q=>L.length-q.1) ?_ (0,[0,1114112]) ⟨zAf _,rfl⟩) rfl rfl
 rintro⟨i,acc⟩ ⟨i1,i2⟩ ih
 simp only at i1 i2 ih ⊢
 by_cases hlt:i<L.length
 · obtain⟨r,hri⟩:∃ r,L[i]? =some r:=⟨_,zA0 hlt⟩
   have hrm:=zA2 hri
   have hrr:=hr r hrm
   have hrl:=hl2 r hrm
   rw[drop_cons hri,List.flatMap_cons] at i2
   repeat' (first|(apply z04;(refine z08 (z1f (ys:=L.map fun r=>[rgs r]) rfl (idx (g:=fun r=>[rgs r]) hri)) rfl rfl ?_))|refine z01 ?_|refine fk (fun _=>?_) (fun _=>?_))
   all_goals try (exfalso;omega)
   refine z0d ?_
   refine z00 (z0p (fun q:Nat × List Int=>⟨35,[(3,.ref (0,1000)),(9,.d (lvs L)),(10,I .i64 L.length),(11,I .i64 (i:Nat)),(15,.d (rgs r)),(16,I .i64 r.length),(17,I .i64 (q.1:Nat))],[(1000,.row 21 1 (q.2.map rcc))],H⟩) (fun q=>q.1≤r.length∧q.2++(ends (r.drop q.1)++(L.drop (i+1)).flatMap ends)=z4q L) (fun q=>r.length-q.1) ?_ (0,acc) ⟨zAf _,i2⟩) rfl rfl
   rintro⟨j,acc2⟩ ⟨j1,j2⟩ ihj
   simp only at j1 j2 ihj ⊢
   by_cases hj:j<r.length
   · obtain⟨x,hx⟩:∃ x,r[j]? =some x:=⟨_,zA0 hj⟩
     obtain⟨x1,x2,x3,x4⟩:=hrr x (zA2 hx)
     have ha2:acc2.length≤N:=by have:=congrArg List.length j2;rw[zAa] at this;omega
     rw[drop_cons hx,ends,List.flatMap_cons,← ends] at j2
     have ihj':=ihj (j+1,acc2++[x.1,x.2+1]) ⟨by simp only;omega,by simp only;rw[← j2];simp⟩ (by simp only;omega)
     repeat' (first|(apply z04;(refine z08 (z1f (ys:=r.map rgc) rfl (idx (g:=rgc) hx)) rfl rfl ?_))|(apply z0o;(refine z08 (z18 (ze7 (by omega) (by omega))) rfl rfl ?_))|(apply z1k;(refine y79 (g:=rcc) (r:=[x.1,x.2+1]) rfl rfl rfl rfl rfl (fun _=>rfl) rfl rfl (by decide) (by simp;omega) ?_))|refine z01 ?_|refine fk (fun _=>?_) (fun _=>?_))
     all_goals try (exfalso;omega)
     all_goals refine z2y 28 1000 ?_
     all_goals exact z00 ihj' rfl rfl
   · obtain rfl:j=r.length:=by omega
     rw[zAs,ends,List.flatMap_nil,List.nil_append] at j2
     have ih':=ih (i+1,acc2) ⟨by simp only;omega,j2⟩ (by simp only;omega)
     all_goals exact zD103
 · obtain rfl:i=L.length:=by omega
   rw[zAs,List.flatMap_nil,List.append_nil] at i2
   subst i2
   repeat' (first|(apply z03;(first|refine z4j hss ?_| refine z4j hcc ?_))|refine z01 ?_|refine fk (fun _=>?_) (fun _=>?_))
   all_goals try (exfalso;omega)
   all_goals exact z02 Tryz.func56 _ z1d ⟨rfl,rfl⟩
theorem z9c {α β:Type} (f:α→Option β) (l:List α):(l.filterMap f).length≤l.length:=List.length_filterMap_le f l
theorem zz7 (L:List (List Rg)):1≤(zal L).length:=by
 have h:=(zfk (Go.Ax.zah (z4q L))).2 0
 have:(0:Int)∈zal L:=by
  rw[zal,h]
  exact(Go.Ax.z81 _).mem_iff.2 (by simp[z4q])
 exact List.length_pos_of_mem this
theorem zhb {L:List (List Rg)} (hr:∀ r∈L,∀ x∈r,0≤x.1∧x.1≤1114111∧0≤x.2∧x.2≤1114111):∀ z∈zal L,0≤z∧z≤1114112:=fun z hz=>by
 rw[zal,(zfk (Go.Ax.zah (z4q L))).2 z,(Go.Ax.z81 _).mem_iff,z4q,zAt] at hz
 rcases hz with hz|hz
 · simp at hz;omega
 · rw[List.mem_flatMap] at hz
   obtain⟨r,hrr,hz⟩:=hz
   rw[ends,List.mem_flatMap] at hz
   obtain⟨x,hx,hz⟩:=hz
   have:=hr r hrr x hx
   simp at hz;omega
theorem y4f (L:List (List Rg)):(zal L).Pairwise (· <·):=(zfk (Go.Ax.zah (z4q L))).1
def y5u (o:Option Au):PV:=match o with
 | some a=>.tup [.d (auD a),I .i64 0]
 | none=>.tup [.d (auD ⟨[],[]⟩),I .i64 2]
end Go.Proofs.YtmcggompdmngmaaGreatDoor
