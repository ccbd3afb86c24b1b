/- A part of the proof: Shb to A29. -/
import Derived.Test.YtmcggompdmngmaaGreatDoorWc
import Derived.Shelf.Small.Bits
import Derived.Test.YtmcggompdmngmaaGreatDoorProg
import Derived.Test.YtmcggompdmngmaaGreatDoorW1
import Derived.Test.YtmcggompdmngmaaGreatDoorWy
import Derived.Test.YtmcggompdmngmaaGreatDoorWs
import Derived.ArgAppend
import Derived.Test.YtmcggompdmngmaaGreatDoorWq
import Derived.Test.YtmcggompdmngmaaGreatDoorW3
import Derived.Test.YtmcggompdmngmaaGreatDoorWr
import Derived.Test.YtmcggompdmngmaaGreatDoorWv
set_option linter.all false
namespace Go.Proofs.YtmcggompdmngmaaGreatDoor
open Go.Proofs
open Go.Shelf
def zl0:Go.Shelf.Ren:=⟨fun|125=>122|128=>159|129=>160|n=>n,fun|46=>169|3=>3|51=>234|53=>108|4=>4|5=>5|9=>9|n=>n,fun|n=>n⟩
theorem y11:Go.Proofs.Lays.n125 Tryz.prog zl0:={
 mixed:=by kernel_rfl
 f125:=Tryz.func122.trans (congrArg some (by kernel_rfl))
 f128:=Tryz.func159.trans (congrArg some (by kernel_rfl))
 f129:=Tryz.func160.trans (congrArg some (by kernel_rfl))
 t3:=Tryz.underlying3
 a3:=Tryz.isAgg3
 z3:=Tryz.sizeOf3
 v3:=Tryz.zeroValue3
 t4:=Tryz.underlying4
 a4:=Tryz.isAgg4
 z4:=Tryz.sizeOf4
 v4:=Tryz.zeroValue4
 t5:=Tryz.underlying5
 a5:=Tryz.isAgg5
 z5:=Tryz.sizeOf5
 v5:=Tryz.zeroValue5
 t9:=Tryz.underlying9
 a9:=Tryz.isAgg9
 z9:=Tryz.sizeOf9
 v9:=Tryz.zeroValue9
 t46:=Tryz.underlying169
 a46:=Tryz.isAgg169
 z46:=Tryz.sizeOf169
 v46:=Tryz.zeroValue169
 t51:=Tryz.underlying234
 a51:=Tryz.isAgg234
 z51:=Tryz.sizeOf234
 v51:=Tryz.zeroValue234
 t53:=Tryz.underlying108
 a53:=Tryz.isAgg108
 z53:=Tryz.sizeOf108
 v53:=Tryz.zeroValue108 }
theorem bits_Len (x:Int) (w:World) (h0:0≤x) (h1:x≤18446744073709551615) :
 Calls Tryz.prog 122 #[.int .u64 x] w fun e w'=>e=.returned (.int .i64 (Lib.bitLen x.toNat))∧w'=w:=Any.bits_Len y11 x w h0 h1
end Go.Proofs.YtmcggompdmngmaaGreatDoor
namespace Go.Proofs.YtmcggompdmngmaaGreatDoor
open Go.Ab Go.Ax
set_option maxHeartbeats 20000000
set_option maxRecDepth 100000
attribute [local irreducible] Run Ops Op1 z14 Val Tr z0d z0w NF Rel z1z z27
abbrev rcc (x:Int):List D:=[z1j x]
theorem z1d (a b:Int):z0d Tryz.prog 175 [I .i32 a,I .i32 b] (B (decide (a<b))):=by
 refine z0y fun H=>?_
 have h1:=ztc a
 have h2:=ztc b
 refine z08 Tryz.func175 (by kernel_rfl) rfl (by simp) ?_
 dsimp only[Tryz.f175]
 repeat' (first|(apply z03;(refine z1i h1 ?_))|refine z05 ?_|fail)
 all_goals try (exfalso;omega)
 all_goals exact z00 Tryz.func175 _ z11 ⟨rfl,rfl⟩
theorem zjx {l A B:List Int} {y:Int} {i:Nat} (h:l=A++y::B) (hi:i=A.length):l[i]? =some y:=by subst h hi;simp
theorem zu4 {l A B:List Int} {y z:Int} {i:Nat} (h:l=A++y::B) (hi:i=A.length):l.set i z=A++z::B:=by subst h hi;simp
theorem zwg (P M T:List Int) (a b:Int) (ha:a=P.length) (hb:b=P.length+M.length) (hlen:P.length+M.length≤200000000) :
 z0w Tryz.prog 169 [.ref (0,1000),I .i64 a,I .i64 b] [((0,1000),.row 21 1 ((P++(M++T)).map rcc))] [((0,1000),.row 21 1 ((P++(srt M++T)).map rcc))] (.tup []):=by
 refine z10 fun H hH=>?_
 have hH0:=hH ((0,1000),.row 21 1 ((P++(M++T)).map rcc)) (by simp)
 refine z08 Tryz.func169 (by kernel_rfl) rfl (by simp) ?_
 dsimp only[Tryz.f169]
 refine z1k 1000 0 1000 hH0 rfl rfl ?_
 repeat' (first|(apply z0v;(refine z0c (z1f z1g) rfl rfl ?_))|refine z05 ?_|fail)
 all_goals try (exfalso;omega)
 refine z0l ?_
 rw[show P++(M++T)=P++(M.take 1++(M.drop 1++T)) by cases M <;> rfl]
 refine z01 (z0x (fun q:Int × List Int × List Int=>⟨49,[(0,.ref (0,1000)),(1,I .i64 a),(2,I .i64 b),(6,I .i64 q.1),(101000,.al (0,1000) (1,1000))],[(1000,.row 21 1 ((P++(q.2.1++(q.2.2++T))).map rcc))],upd H (0,1000) .gone⟩) (fun q=>(q.2.1++q.2.2).Perm M∧q.2.1.Pairwise (· ≤·)∧((M=[]∧q.1=a+1)∨(0<q.2.1.length∧q.1=a+q.2.1.length))) (fun q=>q.2.2.length) ?_ (a+1,M.take 1,M.drop 1) ⟨by rw[List.take_append_drop],by cases M <;> simp,by cases M with
  | nil=>exact .inl ⟨rfl,rfl⟩
  | cons x M=>exact .inr ⟨by simp,by simp⟩⟩) rfl rfl
 rintro⟨i,A,R⟩ ⟨hp,hasc,hi⟩ ih
 simp only at hp hasc hi ih ⊢
 have hlA:=hp.length_eq
 simp only[zAa] at hlA
 cases R with
 | nil =>
  simp only[List.length_nil] at hlA
  rw[List.append_nil] at hp
  have hib:¬ i<b:=by
   rcases hi with ⟨h0,h⟩|⟨h,h'⟩
   · have:=congrArg List.length h0
     simp only[List.length_nil] at this;omega
   · omega
  rw[y0f hp.symm hasc]
  repeat' (first|refine z05 ?_|refine fk (fun _=>?_) (fun _=>?_))
  all_goals try (exfalso;omega)
  refine z3e (raw:=.row 21 1 ((P++(A++([]++T))).map rcc)) 1000 0 1000 ?_
  refine zdp Tryz.func169 _ (z2q rfl) ⟨rfl,?_⟩
  simp[z62,z1p]
 | cons y R =>
  have hi2:i=a+A.length:=by
   rcases hi with ⟨rfl,h⟩|⟨h,h'⟩
   · simp at hlA
   · exact h'
  have hA0:0<A.length:=by
   rcases hi with ⟨rfl,h⟩|⟨h,h'⟩
   · simp at hlA
   · exact h
  simp only[zAk] at hlA
  repeat' (first|refine z05 ?_|refine fk (fun _=>?_) (fun _=>?_))
  all_goals try (exfalso;omega)
  refine z0l ?_
  rw[show P++(A++(y::R++T))=P++(A++(y::([]++(R++T)))) by simp]
  refine z01 (z0x (fun q:Int × List Int × List Int=>⟨49,[(0,.ref (0,1000)),(1,I .i64 a),(2,I .i64 b),(6,I .i64 i),(7,I .i64 q.1),(101000,.al (0,1000) (1,1000))],[(1000,.row 21 1 ((P++(q.2.1++(y::(q.2.2++(R++T))))).map rcc))],upd H (0,1000) .gone⟩) (fun q=>q.2.1++q.2.2=A∧q.1=a+q.2.1.length∧∀ s∈q.2.2,y≤s) (fun q=>q.2.1.length) ?_ (i,A,[]) ⟨by simp,by simp only;omega,by simp⟩) rfl rfl
  rintro⟨j,S1,S2⟩ ⟨hS,hj,hS2⟩ ih2
  simp only at hS hj hS2 ih2 ⊢
  have hlS:=congrArg List.length hS
  simp only[zAa] at hlS
  have done:(∀ z∈S1,z≤y)→((S1++y::S2)++R).Perm M∧(S1++y::S2).Pairwise (· ≤·):=fun h=>by
   refine⟨.trans ?_ hp,y5w (by rw[hS];exact hasc) h hS2⟩
   rw[← hS]
   have:(S1++y::S2).Perm (S1++S2++[y]):=by
    rw[zAl]
    exact List.Perm.append_left S1 (List.perm_append_singleton y S2).symm
   refine(this.append_right R).trans ?_
   simp
  rcases Go.Ab.zia S1 with rfl|⟨S1,s,rfl⟩
  · have hja:¬ j>a:=by simp at hj;omega
    obtain⟨d1,d2⟩:=done (by simp)
    have ih':=ih (i+1,[]++y::S2,R) ⟨d1,d2,.inr ⟨by simp,by simp only[zAa,zAk,List.length_nil] at *;omega⟩⟩ (by simp)
    simp only[zAl,List.cons_append] at ih'
    repeat' (first|refine z05 ?_|(refine z16 (fun hg=>?_) (fun hg=>?_)<;> simp only[hg] <;> (try simp only[zA3,zA5,zA6,zA8] at hg)))
    all_goals try (exfalso;omega)
    exact z01 ih' rfl rfl
  · simp only[zAa,zAk,List.length_nil] at hj hlS
    have e0:P++(S1++[s]++(y::(S2++(R++T))))=(P++(S1++[s]))++y::(S2++(R++T)):=by simp
    have e1:P++(S1++[s]++(y::(S2++(R++T))))=(P++S1)++s::(y::(S2++(R++T))):=by simp
    have hy:(P++(S1++[s]++(y::(S2++(R++T)))))[j.toNat]? =some y:=zjx e0 (by simp;omega)
    have hs:(P++(S1++[s]++(y::(S2++(R++T)))))[(j-1).toNat]? =some s:=zjx e1 (by simp;omega)
    have hs1:(P++(S1++[s]++(y::(S2++(R++T))))).set j.toNat s=(P++S1)++s::(s::(S2++(R++T))):=(zu4 e0 (by simp;omega)).trans (by simp)
    have hz:((P++S1)++s::(s::(S2++(R++T))))[(j-1).toNat]? =some s:=zjx rfl (by simp;omega)
    have hs2:((P++S1)++s::(s::(S2++(R++T)))).set (j-1).toNat y=P++(S1++(y::(s::S2++(R++T)))):=(zu4 rfl (by simp;omega)).trans (by simp)
    have hc:=z1d y s
    by_cases hsy:y<s
    · rw[zAi hsy] at hc
      have ih':=ih2 (j-1,S1,s::S2) ⟨by rw[← hS];simp,by simp only;omega,fun z hz=>by
       rw[zAc] at hz
       rcases hz with rfl|hz
       · omega
       · exact hS2 z hz⟩ (by simp)
      repeat' (first|(apply z0e;(first|refine z0k (z0m (u:=z1j y) hy) rfl rfl ?_| refine z0k (z0m (u:=z1j s) hs) rfl rfl ?_))|(apply z06;(refine z0k (z1m rfl (by simp;omega)) rfl rfl ?_))|(apply z0p;(refine z4s hc ?_))|(apply z15;(first|refine z0g s (by first|exact rfl|exact⟨_,rfl,rfl,rfl⟩) rfl rfl rfl rfl hy rfl rfl rfl hs1 ?_|refine z0g y (by first|exact rfl|exact⟨_,rfl,rfl,rfl⟩) rfl rfl rfl rfl hz rfl rfl rfl hs2 ?_))|refine z05 ?_|(refine z16 (fun hg=>?_) (fun hg=>?_)<;> simp only[hg] <;> (try simp only[zA3,zA5,zA6,zA8] at hg)))
      all_goals try (exfalso;omega)
      exact z01 ih' rfl rfl
    · rw[zAo hsy] at hc
      obtain⟨d1,d2⟩:=done (fun z hz=>by
       have h1:(S1++[s]).Pairwise (· ≤·):=by rw[← hS,List.pairwise_append] at hasc;exact hasc.1
       have:=zwa h1 z hz
       omega)
      have ih':=ih (i+1,(S1++[s])++y::S2,R) ⟨d1,d2,.inr ⟨by simp only[zAa,zAk];omega,by simp only[zAa,zAk,List.length_nil] at *;omega⟩⟩ (by simp)
      simp only at ih'
      rw[show P++(S1++[s]++y::S2++(R++T))=P++(S1++[s]++(y::(S2++(R++T)))) by simp] at ih'
      repeat' (first|(apply z0e;(first|refine z0k (z0m (u:=z1j y) hy) rfl rfl ?_| refine z0k (z0m (u:=z1j s) hs) rfl rfl ?_))|(apply z06;(refine z0k (z1m rfl (by simp;omega)) rfl rfl ?_))|(apply z0p;(refine z4s hc ?_))|refine z05 ?_|(refine z16 (fun hg=>?_) (fun hg=>?_)<;> simp only[hg] <;> (try simp only[zA3,zA5,zA6,zA8] at hg)))
      all_goals try (exfalso;omega)
      exact z01 ih' rfl rfl
theorem zi8 (x:Int) (h0:0≤x) (h1:x≤18446744073709551615):z0d Tryz.prog 122 [I .u64 x] (I .i64 (Lib.bitLen x.toNat)):=by
 refine z7x ⟨_,Tryz.func122,by kernel_rfl,by kernel_rfl⟩ fun β own w vals hA=>?_
 obtain⟨hl,ha⟩:=hA
 obtain⟨v,rfl⟩:∃ v,vals=[v]:=by
  match vals,hl with
  | [v],_=>exact⟨v,rfl⟩
 have hv:=PR.lit (ha 0 _ v rfl rfl)
 subst hv
 exact⟨_,bits_Len x w h0 h1,fun w' own'=>PR.I _ _⟩
theorem zib {l:List Int} {k:Nat} {x:Int} (h:l[k]? =some x):l.take (k+1)=l.take k++[x]:=by
 rw[List.take_add_one,h];rfl
theorem z8l {α:Type}:∀ (l zs:List α) (k:Nat),(z0h l k zs).take k=l.take k
 | [],[],k=>by simp[Ab.z0h]
 | [],z::zs,k=>by simp[Ab.z0h]
 | x::l,[],k=>by simp[Ab.z0h]
 | x::l,z::zs,0=>by simp
 | x::l,z::zs,k+1=>by
  have:z0h (x::l) (k+1) (z::zs)=x::z0h l k (z::zs):=by simp[Ab.z0h]
  rw[this,List.take_succ_cons,List.take_succ_cons,z8l l (z::zs) k]
theorem zaj {α β:Type} (g:α→β):∀ (l zs:List α) (k:Nat),z0h (l.map g) k (zs.map g)=(z0h l k zs).map g
 | [],[],k=>by simp[Ab.z0h]
 | [],z::zs,k=>by simp[Ab.z0h]
 | x::l,[],k=>by simp[Ab.z0h]
 | x::l,z::zs,0=>by
  have:=zaj g l zs 0
  simp only[List.map_cons] at this ⊢
  simp[Ab.z0h,this]
 | x::l,z::zs,k+1=>by
  have:=zaj g l (z::zs) k
  simp only[List.map_cons] at this ⊢
  simp[Ab.z0h,this]
theorem y6b {l m:List Int} {i:Nat} (h:l.drop i=m.drop i):l.drop (i+1)=m.drop (i+1):=by
 have:=congrArg (List.drop 1) h
 simpa[List.drop_drop] using this
theorem zuj (l:List Int) (hl:l.length≤200000000):z0w Tryz.prog 94 [.ref (0,1000)] [((0,1000),.row 21 1 (l.map rcc))] [((0,1000),.gone)] (.d (.slice ((cpt l).map rcc))):=by
 refine z10 fun H hH=>?_
 have hH0:=hH ((0,1000),.row 21 1 (l.map rcc)) (by simp)
 refine z08 Tryz.func94 (by kernel_rfl) rfl (by simp) ?_
 dsimp only[Tryz.f94]
 refine z1k 1000 0 1000 hH0 rfl rfl ?_
 have fin:∀ {n:Nat} {tm:List (Nat × PV)} {hp:Hp} (q:List (List D)),q=(cpt l).map rcc→Ab.look tm 2=some (.d (.slice q))→Ab.look hp 1000=some .gone→True:=fun _ _ _ _=>trivial
 clear fin
 by_cases hs:l.length<2
 · have e1:cpt l=l:=by
    match l,hs with
    | [],_=>rfl
    | [x],_=>rfl
   rw[e1]
   exact zD101
 obtain⟨x0,hx0⟩:∃ x,l[0]? =some x:=⟨_,zA0 (by omega)⟩
 have hstart:cpt l=l.take 1++cq x0 (l.drop 1):=by
  cases l with
  | nil=>simp at hx0
  | cons x l=>simp at hx0;subst hx0;rfl
 repeat' (first|(apply z1q;(refine z0c (z3j rfl) rfl rfl ?_))|refine z05 ?_|refine fk (fun _=>?_) (fun _=>?_))
 all_goals try (exfalso;omega)
 refine z0l ?_
 refine z01 (z0x (fun q:Nat=>⟨61,[(0,.ref (0,1000)),(3,I .i64 ((q:Nat)+1:Int)),(101000,.al (0,1000) (1,1000))],[(1000,.row 21 1 (l.map rcc))],upd H (0,1000) .gone⟩) (fun q=>q+1≤l.length∧∃ x,l[q]? =some x∧cpt l=l.take (q+1)++cq x (l.drop (q+1))) (fun q=>l.length-q) ?_ 0 ⟨by omega,x0,hx0,hstart⟩) rfl rfl
 rintro k ⟨k1,x,hx,k2⟩ ih
 by_cases hlt:k+1<l.length
 · obtain⟨y,hy⟩:∃ y,l[k+1]? =some y:=⟨_,zA0 hlt⟩
   have hyi:l[((((k:Nat):Int)+1)).toNat]? =some y:=by rw[show (((k:Nat):Int)+1).toNat=k+1 by omega];exact hy
   have hxi:l[((((k:Nat):Int)+1)-1).toNat]? =some x:=by rw[show ((((k:Nat):Int)+1)-1).toNat=k by omega];exact hx
   rw[drop_cons hy,cq] at k2
   by_cases he:x=y
   · rw[zAz he] at k2
     have hsub:((((k:Nat):Int)+1)).toNat=k+1:=by omega
     clear ih
     repeat' (first|(apply z0e;(first|refine z0k (z0m (u:=z1j y) hyi) rfl rfl ?_| refine z0k (z0m (u:=z1j x) hxi) rfl rfl ?_))|(apply z06;(refine z0k (z1m rfl (by simp only[zA4];omega)) rfl rfl ?_))|(apply zam;(refine z0c (zj2 rfl (by omega) (by simp only[zA4];omega) rfl) rfl rfl ?_))|(apply z1q;(refine z0c (z3j rfl) rfl rfl ?_))|refine z05 ?_|refine fk (fun _=>?_) (fun _=>?_))
     all_goals try (exfalso;omega)
     refine z0l ?_
     have hln:(l.map rcc).length-((((k:Nat):Int)+1)).toNat=l.length-(k+1):=by rw[zA4,hsub]
     refine z01 (z0x (fun q:Nat × Nat × List Int=>⟨61,[(0,.ref (0,1000)),(3,I .i64 (q.1:Nat)),(4,.rsub (0,1000) 1 ((((k:Nat):Int)+1)).toNat ((l.map rcc).length-((((k:Nat):Int)+1)).toNat)),(5,I .i64 (q.2.1:Nat)),(101000,.al (0,1000) (1,1000))],[(1000,.row 21 1 (q.2.2.map rcc))],upd H (0,1000) .gone⟩) (fun q=>q.2.2.length=l.length∧k+1≤q.1∧q.1+1≤k+1+q.2.1∧1≤q.2.1∧k+1+q.2.1≤l.length∧q.2.2.drop (k+q.2.1)=l.drop (k+q.2.1)∧∃ z,l[k+q.2.1]? =some z∧cpt l=q.2.2.take q.1++cq z (l.drop (k+1+q.2.1))) (fun q=>l.length-q.2.1) ?_ (k+1,1,l) ⟨rfl,zAj _,by simp only;omega,zAj _,by simp only;omega,rfl,y,hy,k2⟩) rfl rfl
     rintro⟨a,b,r⟩ ⟨r1,r2,r3,r4,r5,r6,z,hz,r7⟩ ih
     simp only at r1 r2 r3 r4 r5 r6 hz r7 ih ⊢
     have hget:∀ i,k+b≤i→r[i]? =l[i]?:=fun i hi=>by
      have:=congrArg (fun m=>m[i-(k+b)]?) r6
      simp only[List.getElem?_drop] at this
      rwa [show k+b+(i-(k+b))=i by omega] at this
     by_cases hlb:k+1+b<l.length
     · obtain⟨u,hu⟩:∃ u,l[k+1+b]? =some u:=⟨_,zA0 hlb⟩
       have hui:r[((((k:Nat):Int)+1)).toNat+((b:Nat):Int).toNat]? =some u:=by rw[hsub,zA9,hget _ (by omega)];exact hu
       have hzi:r[((((k:Nat):Int)+1)).toNat+(((b:Nat):Int)-1).toNat]? =some z:=by rw[hsub,show k+1+(((b:Nat):Int)-1).toNat=k+b by omega,hget _ (by omega)];exact hz
       rw[drop_cons hu,cq] at r7
       have hai:∃ v,r[((a:Nat):Int).toNat]? =some v:=⟨_,zA0 (by omega)⟩
       obtain⟨v,hv⟩:=hai
       by_cases hzu:z=u
       · rw[zAz hzu] at r7
         have ih':=ih (a,b+1,r) ⟨r1,r2,by simp only;omega,by simp only;omega,by simp only;omega,by simp only;rw[← Nat.add_assoc];exact y6b r6,u,by rw[show k+(b+1)=k+1+b by omega];exact hu,by simp only;rw[r7,show k+1+(b+1)=k+1+b+1 by omega]⟩ (by simp only;omega)
         repeat' (first|(apply z0i;(refine z0c (z0m (u:=z1j u) hui) rfl rfl ?_))|(apply z0e;(first|refine z0k (z0m (u:=z1j u) hui) rfl rfl ?_| refine z0k (z0m (u:=z1j z) hzi) rfl rfl ?_))|(apply z09;(refine z0c (z9d rfl (by omega) (by rw[hln];omega) (by rw[hln,hsub,zA4,r1];omega) rfl) rfl rfl ?_))|(apply z06;(refine z0k (z9d rfl (by omega) (by rw[hln];omega) (by rw[hln,hsub,zA4,r1];omega) rfl) rfl rfl ?_))|(apply z1q;(refine z0c (zhe rfl) rfl rfl ?_))|refine z05 ?_|refine fk (fun _=>?_) (fun _=>?_))
         all_goals exact zD12
       · rw[zAy hzu] at r7
         have hset:r.set ((a:Nat):Int).toNat u=r.set a u:=by rw[zA9]
         have ih':=ih (a+1,b+1,r.set a u) ⟨by simp[r1],by simp only;omega,by simp only;omega,by simp only;omega,by simp only;omega,by
          simp only
          rw[List.drop_set_of_lt (by omega),← Nat.add_assoc];exact y6b r6,u,by rw[show k+(b+1)=k+1+b by omega];exact hu,by
          simp only
          rw[zib (x:=u) (by rw[zAp (by omega)]),List.take_set_of_le (zAj _),r7,show k+1+(b+1)=k+1+b+1 by omega]
          simp⟩ (by simp only;omega)
         repeat' (first|(apply z0i;(refine z0c (z0m (u:=z1j u) hui) rfl rfl ?_))|(apply z0e;(first|refine z0k (z0m (u:=z1j u) hui) rfl rfl ?_| refine z0k (z0m (u:=z1j z) hzi) rfl rfl ?_))|(apply z09;(first|refine z0c (z1m rfl (by simp only[zA4];omega)) rfl rfl ?_| refine z0c (z9d rfl (by omega) (by rw[hln];omega) (by rw[hln,hsub,zA4,r1];omega) rfl) rfl rfl ?_))|(apply z06;(refine z0k (z9d rfl (by omega) (by rw[hln];omega) (by rw[hln,hsub,zA4,r1];omega) rfl) rfl rfl ?_))|(apply z1q;(refine z0c (zhe rfl) rfl rfl ?_))|(apply z0o;(refine zdw u hv hset ?_))|refine z05 ?_|refine fk (fun _=>?_) (fun _=>?_))
         all_goals exact zD12
     · have hbe:k+1+b=l.length:=by omega
       rw[List.drop_eq_nil_of_le (by omega),cq,List.append_nil] at r7
       have hspl:z0h (r.map rcc) ((a:Nat):Int).toNat (List.replicate ((r.map rcc).length-((a:Nat):Int).toNat) [.lit (.int .i32 0)])=(z0h r a (List.replicate (r.length-a) 0)).map rcc:=by
        rw[zA9,zA4,show ([.lit (.int .i32 0)]:List D)=rcc 0 from rfl,← List.map_replicate,zaj]
       have hres:(z0h r a (List.replicate (r.length-a) 0)).take ((a:Nat):Int).toNat=cpt l:=by
        rw[zA9,z8l,← r7]
       have hlen2:(z0h r a (List.replicate (r.length-a) 0)).length=r.length:=z0r _ _ _
       generalize z0h r a (List.replicate (r.length-a) 0)=r2 at *
       repeat' (first|(apply z1b;((refine y2c (e:=21) (z0:=.int .i32 0) rfl (z6y (by kernel_rfl)) rfl rfl rfl (by simp only[zA4];omega) ?_;rw[hspl];refine z84 1000 rfl ?_)))|(apply zam;(first|refine z0c (zj2 rfl (by omega) (by simp only[zA4];omega) rfl) rfl rfl ?_| refine z0c (zde (g:=rcc) rfl (by omega) (by omega) (fun _=>rfl)) rfl rfl ?_))|(apply z1q;(refine z0c (zhe rfl) rfl rfl ?_))|refine z05 ?_|refine fk (fun _=>?_) (fun _=>?_))
       all_goals try (exfalso;rw[hln] at *;omega)
       all_goals (rw[← hres];exact z00 Tryz.func94 _ z11 ⟨rfl,rfl⟩)
   · rw[zAy he] at k2
     have ih':=ih (k+1) ⟨by omega,y,hy,by rw[zib hy,k2];simp⟩ (by omega)
     repeat' (first|(apply z0e;(first|refine z0k (z0m (u:=z1j y) hyi) rfl rfl ?_| refine z0k (z0m (u:=z1j x) hxi) rfl rfl ?_))|(apply z06;(refine z0k (z1m rfl (by simp only[zA4];omega)) rfl rfl ?_))|(apply z1q;(refine z0c (z3j rfl) rfl rfl ?_))|refine z05 ?_|refine fk (fun _=>?_) (fun _=>?_))
     all_goals exact zD12
 · have hke:k+1=l.length:=by omega
   rw[hke,zAs,cq,List.append_nil,List.take_length] at k2
   rw[k2]
   exact zD101
open Go.Ab Go.Ax Go.Rx
def znw (n:Nat):Prop:=∀ M:List Int,M.length≤n→z0w Tryz.prog 93 [.ref (0,1000)] [((0,1000),.row 21 1 (M.map rcc))] [((0,1000),.row 21 1 ((srt M).map rcc))] (.tup [])
def ends (r:List Rg):List Int:=r.flatMap fun x=>[x.1,x.2+1]
def z4w (L:List (List Rg)):List Int:=[0,1114112]++L.flatMap ends
def zav (L:List (List Rg)):List Int:=cpt (srt (z4w L))
theorem y6v {N:Nat} (hS:znw N) (L:List (List Rg)) (hN:(z4w L).length≤N) (hN2:N≤200000000) (hr:∀ r∈L,∀ x∈r,0≤x.1∧x.1≤1114111∧0≤x.2∧x.2≤1114111) (hl:L.length≤200000000) (hl2:∀ r∈L,r.length≤200000000) :
 z0d Tryz.prog 56 [.d (lvs L)] (.d (.slice ((zav L).map rcc))):=by
 refine z0y fun H=>?_
 have hss:=hS (z4w L) hN
 have hcc:=zuj (srt (z4w L)) (by rw[zt3];omega)
 refine z08 Tryz.func56 (by kernel_rfl) rfl (by simp) ?_
 dsimp only[Tryz.f56]
 repeat' (first|(apply y2y;(refine y03 rfl rfl rfl rfl rfl rfl rfl rfl rfl (by decide) ?_))|refine z05 ?_|fail)
 refine z2i 8 1000 ?_
 refine z0l ?_
 refine z01 (z0x (fun q:Nat × List Int=>⟨35,[(3,.ref (0,1000)),(9,.d (lvs L)),(10,I .i64 L.length),(11,I .i64 (q.1:Nat))],[(1000,.row 21 1 (q.2.map rcc))],H⟩) (fun q=>q.1≤L.length∧q.2++(L.drop q.1).flatMap ends=z4w L) (fun q=>L.length-q.1) ?_ (0,[0,1114112]) ⟨zAf _,rfl⟩) rfl rfl
 rintro⟨i,acc⟩ ⟨i1,i2⟩ ih
 simp only at i1 i2 ih ⊢
 by_cases hlt:i<L.length
 · obtain⟨r,hri⟩:∃ r,L[i]? =some r:=⟨_,zA0 hlt⟩
   have hrm:=zA2 hri
   have hrr:=hr r hrm
   have hrl:=hl2 r hrm
   rw[drop_cons hri,List.flatMap_cons] at i2
   repeat' (first|(apply z09;(refine z0c (z1n (ys:=L.map fun r=>[rgs r]) rfl (idx (g:=fun r=>[rgs r]) hri)) rfl rfl ?_))|refine z05 ?_|refine fk (fun _=>?_) (fun _=>?_))
   all_goals try (exfalso;omega)
   refine z0l ?_
   refine z01 (z0x (fun q:Nat × List Int=>⟨35,[(3,.ref (0,1000)),(9,.d (lvs L)),(10,I .i64 L.length),(11,I .i64 (i:Nat)),(15,.d (rgs r)),(16,I .i64 r.length),(17,I .i64 (q.1:Nat))],[(1000,.row 21 1 (q.2.map rcc))],H⟩) (fun q=>q.1≤r.length∧q.2++(ends (r.drop q.1)++(L.drop (i+1)).flatMap ends)=z4w L) (fun q=>r.length-q.1) ?_ (0,acc) ⟨zAf _,i2⟩) rfl rfl
   rintro⟨j,acc2⟩ ⟨j1,j2⟩ ihj
   simp only at j1 j2 ihj ⊢
   by_cases hj:j<r.length
   · obtain⟨x,hx⟩:∃ x,r[j]? =some x:=⟨_,zA0 hj⟩
     obtain⟨x1,x2,x3,x4⟩:=hrr x (zA2 hx)
     have ha2:acc2.length≤N:=by have:=congrArg List.length j2;rw[zAa] at this;omega
     rw[drop_cons hx,ends,List.flatMap_cons,← ends] at j2
     have ihj':=ihj (j+1,acc2++[x.1,x.2+1]) ⟨by simp only;omega,by simp only;rw[← j2];simp⟩ (by simp only;omega)
     repeat' (first|(apply z09;(refine z0c (z1n (ys:=r.map rgc) rfl (idx (g:=rgc) hx)) rfl rfl ?_))|(apply z0v;(refine z0c (z1f (zab (by omega) (by omega))) rfl rfl ?_))|(apply z1q;(refine zaa (g:=rcc) (r:=[x.1,x.2+1]) rfl rfl rfl rfl rfl (fun _=>rfl) rfl rfl (by decide) (by simp;omega) ?_))|refine z05 ?_|refine fk (fun _=>?_) (fun _=>?_))
     all_goals try (exfalso;omega)
     all_goals refine z2i 28 1000 ?_
     all_goals exact z01 ihj' rfl rfl
   · obtain rfl:j=r.length:=by omega
     rw[zAs,ends,List.flatMap_nil,List.nil_append] at j2
     have ih':=ih (i+1,acc2) ⟨by simp only;omega,j2⟩ (by simp only;omega)
     all_goals exact zD121
 · obtain rfl:i=L.length:=by omega
   rw[zAs,List.flatMap_nil,List.append_nil] at i2
   subst i2
   repeat' (first|(apply z03;(first|refine z3v hss ?_| refine z3v hcc ?_))|refine z05 ?_|refine fk (fun _=>?_) (fun _=>?_))
   all_goals try (exfalso;omega)
   all_goals exact z00 Tryz.func56 _ z11 ⟨rfl,rfl⟩
theorem z97 {α β:Type} (f:α→Option β) (l:List α):(l.filterMap f).length≤l.length:=List.length_filterMap_le f l
theorem zy7 (L:List (List Rg)):1≤(zav L).length:=by
 have h:=(zgv (Go.Ax.z7s (z4w L))).2 0
 have:(0:Int)∈zav L:=by
  rw[zav,h]
  exact(Go.Ax.z3o _).mem_iff.2 (by simp[z4w])
 exact List.length_pos_of_mem this
theorem zgb {L:List (List Rg)} (hr:∀ r∈L,∀ x∈r,0≤x.1∧x.1≤1114111∧0≤x.2∧x.2≤1114111):∀ z∈zav L,0≤z∧z≤1114112:=fun z hz=>by
 rw[zav,(zgv (Go.Ax.z7s (z4w L))).2 z,(Go.Ax.z3o _).mem_iff,z4w,zAt] at hz
 rcases hz with hz|hz
 · simp at hz;omega
 · rw[List.mem_flatMap] at hz
   obtain⟨r,hrr,hz⟩:=hz
   rw[ends,List.mem_flatMap] at hz
   obtain⟨x,hx,hz⟩:=hz
   have:=hr r hrr x hx
   simp at hz;omega
theorem y0r (L:List (List Rg)):(zav L).Pairwise (· <·):=(zgv (Go.Ax.z7s (z4w L))).1
def y4q (o:Option Au):PV:=match o with
 | some a=>.tup [.d (auD a),I .i64 0]
 | none=>.tup [.d (auD ⟨[],[]⟩),I .i64 2]
end Go.Proofs.YtmcggompdmngmaaGreatDoor
