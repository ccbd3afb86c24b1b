/- A part. -/
import Derived.Shelf.Small.Bits
import Derived.Test.YtmcggompdmngmaaGreatDoorX3
set_option linter.all false
open Go.Proofs.Tryz
namespace Go.Proofs.YtmcggompdmngmaaGreatDoor
open Go.Proofs
open Go.Shelf
def zl1:Go.Shelf.Ren:=⟨fun|125=>122|128=>159|129=>160|n=>n,fun|46=>169|3=>3|51=>234|53=>108|4=>4|5=>5|9=>9|n=>n,fun|n=>n⟩
theorem y6s:Go.Proofs.Lays.n125 prog zl1:={
 mixed:=by kernel_rfl
 f125:=func122.trans (congrArg some (by kernel_rfl))
 f128:=func159.trans (congrArg some (by kernel_rfl))
 f129:=func160.trans (congrArg some (by kernel_rfl))
 t3:=underlying3
 a3:=isAgg3
 z3:=sizeOf3
 v3:=zeroValue3
 t4:=underlying4
 a4:=isAgg4
 z4:=sizeOf4
 v4:=zeroValue4
 t5:=underlying5
 a5:=isAgg5
 z5:=sizeOf5
 v5:=zeroValue5
 t9:=underlying9
 a9:=isAgg9
 z9:=sizeOf9
 v9:=zeroValue9
 t46:=underlying169
 a46:=isAgg169
 z46:=sizeOf169
 v46:=zeroValue169
 t51:=underlying234
 a51:=isAgg234
 z51:=sizeOf234
 v51:=zeroValue234
 t53:=underlying108
 a53:=isAgg108
 z53:=sizeOf108
 v53:=zeroValue108 }
theorem bits_Len(x:Int)(w:World)(h0:0≤x)(h1:x≤18446744073709551615) :
 Calls prog 122 #[.int .u64 x] w fun e w'=>e=.returned (.int .i64 (Lib.bitLen x.toNat))∧w'=w:=Any.bits_Len y6s x w h0 h1
end Go.Proofs.YtmcggompdmngmaaGreatDoor
namespace Go.Proofs.YtmcggompdmngmaaGreatDoor
open Go.Ab Go.Ax
set_option maxHeartbeats 20000000
set_option maxRecDepth 100000
attribute [local irreducible] Run Ops Op1 z0y Val Tr z0a z0u NF Rel z27 z29
abbrev rcc(x:Int):List D:=[z1b x]
theorem z1c(a b:Int):z0a prog 175 [I .i32 a,I .i32 b] (B (decide (a<b))):=by
 refine z0q fun H=>?_
 have h1:=zgq a
 have h2:=zgq b
 refine z05 func175 (by kernel_rfl) rfl (by simp) ?_
 dsimp only[f175]
 repeat' first|(apply z06;refine z1o h1 ?_)|refine z04 ?_|fail
 all_goals try omega
 all_goals exact z03 func175 _ z1h ⟨rfl,rfl⟩
theorem zlj{l A B:List Int}{y:Int}{i:Nat}(h:l=A++y::B)(hi:i=A.length):l[i]? =some y:=by subst h hi;simp
theorem zv1{l A B:List Int}{y z:Int}{i:Nat}(h:l=A++y::B)(hi:i=A.length):l.set i z=A++z::B:=by subst h hi;simp
theorem zz4(P M T:List Int)(a b:Int)(ha:a=P.length)(hb:b=P.length+M.length)(hlen:P.length+M.length≤200000000) :
 z0u prog 169 [.ref (0,1000),I .i64 a,I .i64 b] [((0,1000),.row 21 1 ((P++(M++T)).map rcc))] [((0,1000),.row 21 1 ((P++(srt M++T)).map rcc))] (.tup []):=by
 refine z0v fun H hH=>?_
 have hH0:=hH ((0,1000),.row 21 1 ((P++(M++T)).map rcc)) (by simp)
 refine z05 func169 (by kernel_rfl) rfl (by simp) ?_
 dsimp only[f169]
 refine z1k 1000 0 1000 hH0 rfl rfl ?_
 repeat' first|(apply z0t;refine z07 (z16 z1e) rfl rfl ?_)|refine z04 ?_|fail
 all_goals try omega
 refine z0f ?_
 rw[show P++(M++T)=P++(M.take 1++(M.drop 1++T)) by cases M <;> rfl]
 refine z00 (z0s (fun q:Int × List Int × List Int=>⟨49,[(0,.ref (0,1000)),(1,I .i64 a),(2,I .i64 b),(6,I .i64 q.1),(101000,.al (0,1000) (1,1000))],[(1000,.row 21 1 ((P++(q.2.1++(q.2.2++T))).map rcc))],upd H (0,1000) .gone⟩) (fun q=>(q.2.1++q.2.2).Perm M∧q.2.1.Pairwise (· ≤·)∧((M=[]∧q.1=a+1)∨(0<q.2.1.length∧q.1=a+q.2.1.length))) (fun q=>q.2.2.length) ?_ (a+1,M.take 1,M.drop 1) ⟨by rw[List.take_append_drop],by cases M <;> simp,by cases M with
  | nil=>exact .inl ⟨rfl,rfl⟩
  | cons x M=>exact .inr ⟨by simp,by simp⟩⟩) rfl rfl
 rintro⟨i,A,R⟩ ⟨hp,hasc,hi⟩ ih
 simp only at hp hasc hi ih⊢
 have hlA:=hp.length_eq
 simp only[zAa]at hlA
 cases R with
 | nil =>
  simp only[List.length_nil]at hlA
  rw[List.append_nil]at hp
  have hib:¬i<b:=by
   rcases hi with⟨h0,h⟩|⟨h,h'⟩
   ·have:=congrArg List.length h0
    simp only[List.length_nil]at this;omega
   ·omega
  rw[y2p hp.symm hasc]
  repeat' first|refine z04 ?_|refine fk (fun _=>?_) fun _=>?_
  all_goals try omega
  refine z3a (raw:=.row 21 1 ((P++(A++([]++T))).map rcc)) 1000 0 1000 ?_
  refine ze8 func169 _ (z2o rfl) ⟨rfl,?_⟩
  simp[z6j,z1m]
 | cons y R =>
  have hi2:i=a+A.length:=by
   rcases hi with⟨rfl,h⟩|⟨h,h'⟩
   ·simp at hlA
   ·exact h'
  have hA0:0<A.length:=by
   rcases hi with⟨rfl,h⟩|⟨h,h'⟩
   ·simp at hlA
   ·exact h
  simp only[zAk]at hlA
  repeat' first|refine z04 ?_|refine fk (fun _=>?_) fun _=>?_
  all_goals try omega
  refine z0f ?_
  rw[show P++(A++(y::R++T))=P++(A++(y::([]++(R++T)))) by simp]
  refine z00 (z0s (fun q:Int × List Int × List Int=>⟨49,[(0,.ref (0,1000)),(1,I .i64 a),(2,I .i64 b),(6,I .i64 i),(7,I .i64 q.1),(101000,.al (0,1000) (1,1000))],[(1000,.row 21 1 ((P++(q.2.1++(y::(q.2.2++(R++T))))).map rcc))],upd H (0,1000) .gone⟩) (fun q=>q.2.1++q.2.2=A∧q.1=a+q.2.1.length∧∀s∈q.2.2,y≤s) (fun q=>q.2.1.length) ?_ (i,A,[]) ⟨by simp,by simp only;omega,by simp⟩) rfl rfl
  rintro⟨j,S1,S2⟩ ⟨hS,hj,hS2⟩ ih2
  simp only at hS hj hS2 ih2⊢
  have hlS:=congrArg List.length hS
  simp only[zAa]at hlS
  have done:(∀z∈S1,z≤y)→((S1++y::S2)++R).Perm M∧(S1++y::S2).Pairwise (· ≤·):=fun h=>by
   refine⟨.trans ?_ hp,y7u (by rw[hS];exact hasc) h hS2⟩
   rw[←hS]
   have:(S1++y::S2).Perm (S1++S2++[y]):=by
    rw[zAl]
    exact List.Perm.append_left S1 (List.perm_append_singleton y S2).symm
   refine(this.append_right R).trans ?_
   simp
  rcases Go.Ab.zdj S1 with rfl|⟨S1,s,rfl⟩
  ·have hja:¬j>a:=by simp at hj;omega
   obtain⟨d1,d2⟩:=done (by simp)
   have ih':=ih (i+1,[]++y::S2,R) ⟨d1,d2,.inr ⟨by simp,by simp only[zAa,zAk,List.length_nil]at *;omega⟩⟩ (by simp)
   simp only[zAl,List.cons_append]at ih'
   repeat' first|refine z04 ?_|(refine z13 (fun hg=>?_) (fun hg=>?_)<;> simp only[hg] <;> (try simp only[zA3,zA5,zA6,zA8]at hg))
   all_goals try omega
   exact z00 ih' rfl rfl
  ·simp only[zAa,zAk,List.length_nil]at hj hlS
   have e0:P++(S1++[s]++(y::(S2++(R++T))))=(P++(S1++[s]))++y::(S2++(R++T)):=by simp
   have e1:P++(S1++[s]++(y::(S2++(R++T))))=(P++S1)++s::(y::(S2++(R++T))):=by simp
   have hy:(P++(S1++[s]++(y::(S2++(R++T)))))[j.toNat]? =some y:=zlj e0 (by simp;omega)
   have hs:(P++(S1++[s]++(y::(S2++(R++T)))))[(j-1).toNat]? =some s:=zlj e1 (by simp;omega)
   have hs1:(P++(S1++[s]++(y::(S2++(R++T))))).set j.toNat s=(P++S1)++s::(s::(S2++(R++T))):=(zv1 e0 (by simp;omega)).trans (by simp)
   have hz:((P++S1)++s::(s::(S2++(R++T))))[(j-1).toNat]? =some s:=zlj rfl (by simp;omega)
   have hs2:((P++S1)++s::(s::(S2++(R++T)))).set (j-1).toNat y=P++(S1++(y::(s::S2++(R++T)))):=(zv1 rfl (by simp;omega)).trans (by simp)
   have hc:=z1c y s
   by_cases hsy:y<s
   ·rw[zAi hsy]at hc
    have ih':=ih2 (j-1,S1,s::S2) ⟨by rw[←hS];simp,by simp only;omega,fun z hz=>by
     rw[zAc]at hz
     rcases hz with rfl|hz
     ·omega
     ·exact hS2 z hz⟩ (by simp)
    repeat' first|(apply z0b;first|refine z0c (z0e (u:=z1b y) hy) rfl rfl ?_| refine z0c (z0e (u:=z1b s) hs) rfl rfl ?_)|(apply z02;refine z0c (z1a rfl (by simp;omega)) rfl rfl ?_)|(apply z0l;refine z3t hc ?_)|(apply z10;first|refine z0j s (by first|exact rfl|exact⟨_,rfl,rfl,rfl⟩) rfl rfl rfl rfl hy rfl rfl rfl hs1 ?_|refine z0j y (by first|exact rfl|exact⟨_,rfl,rfl,rfl⟩) rfl rfl rfl rfl hz rfl rfl rfl hs2 ?_)|refine z04 ?_|(refine z13 (fun hg=>?_) (fun hg=>?_)<;> simp only[hg] <;> (try simp only[zA3,zA5,zA6,zA8]at hg))
    all_goals try omega
    exact z00 ih' rfl rfl
   ·rw[zAo hsy]at hc
    obtain⟨d1,d2⟩:=done (fun z hz=>by
     have h1:(S1++[s]).Pairwise (· ≤·):=by rw[←hS,List.pairwise_append]at hasc;exact hasc.1
     have:=y0p h1 z hz
     omega)
    have ih':=ih (i+1,(S1++[s])++y::S2,R) ⟨d1,d2,.inr ⟨by simp only[zAa,zAk];omega,by simp only[zAa,zAk,List.length_nil]at *;omega⟩⟩ (by simp)
    simp only at ih'
    rw[show P++(S1++[s]++y::S2++(R++T))=P++(S1++[s]++(y::(S2++(R++T)))) by simp]at ih'
    repeat' first|(apply z0b;first|refine z0c (z0e (u:=z1b y) hy) rfl rfl ?_| refine z0c (z0e (u:=z1b s) hs) rfl rfl ?_)|(apply z02;refine z0c (z1a rfl (by simp;omega)) rfl rfl ?_)|(apply z0l;refine z3t hc ?_)|refine z04 ?_|(refine z13 (fun hg=>?_) (fun hg=>?_)<;> simp only[hg] <;> (try simp only[zA3,zA5,zA6,zA8]at hg))
    all_goals try omega
    exact z00 ih' rfl rfl
theorem zk0(x:Int)(h0:0≤x)(h1:x≤18446744073709551615):z0a prog 122 [I .u64 x] (I .i64 (Lib.bitLen x.toNat)):=by
 refine z8a ⟨_,func122,by kernel_rfl,by kernel_rfl⟩ fun β own w vals hA=>?_
 obtain⟨hl,ha⟩:=hA
 obtain⟨v,rfl⟩:∃v,vals=[v]:=by
  match vals,hl with
  | [v],_=>exact⟨v,rfl⟩
 have hv:=PR.lit (ha 0 _ v rfl rfl)
 subst hv
 exact⟨_,bits_Len x w h0 h1,fun w' own'=>PR.I _ _⟩
theorem zj4{l:List Int}{k:Nat}{x:Int}(h:l[k]? =some x):l.take (k+1)=l.take k++[x]:=by
 rw[List.take_add_one,h];rfl
theorem z8v{α:Type}:∀(l zs:List α) (k:Nat),(z0g l k zs).take k=l.take k
 | [],[],k=>by simp[Ab.z0g]
 | [],z::zs,k=>by simp[Ab.z0g]
 | x::l,[],k=>by simp[Ab.z0g]
 | x::l,z::zs,0=>by simp
 | x::l,z::zs,k+1=>by
  have:z0g (x::l) (k+1) (z::zs)=x::z0g l k (z::zs):=by simp[Ab.z0g]
  rw[this,List.take_succ_cons,List.take_succ_cons,z8v l (z::zs) k]
theorem zar{α β:Type}(g:α→β):∀(l zs:List α) (k:Nat),z0g (l.map g) k (zs.map g)=(z0g l k zs).map g
 | [],[],k=>by simp[Ab.z0g]
 | [],z::zs,k=>by simp[Ab.z0g]
 | x::l,[],k=>by simp[Ab.z0g]
 | x::l,z::zs,0=>by
  have:=zar g l zs 0
  simp only[List.map_cons]at this⊢
  simp[Ab.z0g,this]
 | x::l,z::zs,k+1=>by
  have:=zar g l (z::zs) k
  simp only[List.map_cons]at this⊢
  simp[Ab.z0g,this]
theorem y9o{l m:List Int}{i:Nat}(h:l.drop i=m.drop i):l.drop (i+1)=m.drop (i+1):=by
 have:=congrArg (List.drop 1) h
 simpa[List.drop_drop]using this
theorem zux(l:List Int)(hl:l.length≤200000000):z0u prog 94 [.ref (0,1000)] [((0,1000),.row 21 1 (l.map rcc))] [((0,1000),.gone)] (.d (.slice ((cpt l).map rcc))):=by
 refine z0v fun H hH=>?_
 have hH0:=hH ((0,1000),.row 21 1 (l.map rcc)) (by simp)
 refine z05 func94 (by kernel_rfl) rfl (by simp) ?_
 dsimp only[f94]
 refine z1k 1000 0 1000 hH0 rfl rfl ?_
 have fin:∀ {n:Nat} {tm:List (Nat × PV)} {hp:Hp} (q:List (List D)),q=(cpt l).map rcc→Ab.look tm 2=some (.d (.slice q))→Ab.look hp 1000=some .gone→True:=fun _ _ _ _=>trivial
 clear fin
 by_cases hs:l.length<2
 ·have e1:cpt l=l:=by
   match l,hs with
   | [],_=>rfl
   | [x],_=>rfl
  rw[e1]
  exact zD89
 obtain⟨x0,hx0⟩:∃x,l[0]? =some x:=⟨_,zA0 (by omega)⟩
 have hstart:cpt l=l.take 1++cq x0 (l.drop 1):=by
  cases l with
  | nil=>simp at hx0
  | cons x l=>simp at hx0;subst hx0;rfl
 repeat' first|(apply z14;refine z07 (z18 rfl) rfl rfl ?_)|refine z04 ?_|refine fk (fun _=>?_) fun _=>?_
 all_goals try omega
 refine z0f ?_
 refine z00 (z0s (fun q:Nat=>⟨61,[(0,.ref (0,1000)),(3,I .i64 ((q:Nat)+1:Int)),(101000,.al (0,1000) (1,1000))],[(1000,.row 21 1 (l.map rcc))],upd H (0,1000) .gone⟩) (fun q=>q+1≤l.length∧∃x,l[q]? =some x∧cpt l=l.take (q+1)++cq x (l.drop (q+1))) (fun q=>l.length-q) ?_ 0 ⟨by omega,x0,hx0,hstart⟩) rfl rfl
 rintro k ⟨k1,x,hx,k2⟩ ih
 by_cases hlt:k+1<l.length
 ·obtain⟨y,hy⟩:∃y,l[k+1]? =some y:=⟨_,zA0 hlt⟩
  have hyi:l[((((k:Nat):Int)+1)).toNat]? =some y:=by rw[show(((k:Nat):Int)+1).toNat=k+1 by omega];exact hy
  have hxi:l[((((k:Nat):Int)+1)-1).toNat]? =some x:=by rw[show((((k:Nat):Int)+1)-1).toNat=k by omega];exact hx
  rw[drop_cons hy,cq]at k2
  by_cases he:x=y
  ·rw[zAz he]at k2
   have hsub:((((k:Nat):Int)+1)).toNat=k+1:=by omega
   clear ih
   repeat' first|(apply z0b;first|refine z0c (z0e (u:=z1b y) hyi) rfl rfl ?_| refine z0c (z0e (u:=z1b x) hxi) rfl rfl ?_)|(apply z02;refine z0c (z1a rfl (by simp only[zA4];omega)) rfl rfl ?_)|(apply z98;refine z07 (zjw rfl (by omega) (by simp only[zA4];omega) rfl) rfl rfl ?_)|(apply z14;refine z07 (z18 rfl) rfl rfl ?_)|refine z04 ?_|refine fk (fun _=>?_) fun _=>?_
   all_goals try omega
   refine z0f ?_
   have hln:(l.map rcc).length-((((k:Nat):Int)+1)).toNat=l.length-(k+1):=by rw[zA4,hsub]
   refine z00 (z0s (fun q:Nat × Nat × List Int=>⟨61,[(0,.ref (0,1000)),(3,I .i64 (q.1:Nat)),(4,.rsub (0,1000) 1 ((((k:Nat):Int)+1)).toNat ((l.map rcc).length-((((k:Nat):Int)+1)).toNat)),(5,I .i64 (q.2.1:Nat)),(101000,.al (0,1000) (1,1000))],[(1000,.row 21 1 (q.2.2.map rcc))],upd H (0,1000) .gone⟩) (fun q=>q.2.2.length=l.length∧k+1≤q.1∧q.1+1≤k+1+q.2.1∧1≤q.2.1∧k+1+q.2.1≤l.length∧q.2.2.drop (k+q.2.1)=l.drop (k+q.2.1)∧∃z,l[k+q.2.1]? =some z∧cpt l=q.2.2.take q.1++cq z (l.drop (k+1+q.2.1))) (fun q=>l.length-q.2.1) ?_ (k+1,1,l) ⟨rfl,zAj _,by simp only;omega,zAj _,by simp only;omega,rfl,y,hy,k2⟩) rfl rfl
   rintro⟨a,b,r⟩ ⟨r1,r2,r3,r4,r5,r6,z,hz,r7⟩ ih
   simp only at r1 r2 r3 r4 r5 r6 hz r7 ih⊢
   have hget:∀i,k+b≤i→r[i]? =l[i]?:=fun i hi=>by
    have:=congrArg (fun m=>m[i-(k+b)]?) r6
    simp only[List.getElem?_drop]at this
    rwa [show k+b+(i-(k+b))=i by omega]at this
   by_cases hlb:k+1+b<l.length
   ·obtain⟨u,hu⟩:∃u,l[k+1+b]? =some u:=⟨_,zA0 hlb⟩
    have hui:r[((((k:Nat):Int)+1)).toNat+((b:Nat):Int).toNat]? =some u:=by rw[hsub,zA9,hget _ (by omega)];exact hu
    have hzi:r[((((k:Nat):Int)+1)).toNat+(((b:Nat):Int)-1).toNat]? =some z:=by rw[hsub,show k+1+(((b:Nat):Int)-1).toNat=k+b by omega,hget _ (by omega)];exact hz
    rw[drop_cons hu,cq]at r7
    have hai:∃v,r[((a:Nat):Int).toNat]? =some v:=⟨_,zA0 (by omega)⟩
    obtain⟨v,hv⟩:=hai
    by_cases hzu:z=u
    ·rw[zAz hzu]at r7
     have ih':=ih (a,b+1,r) ⟨r1,r2,by simp only;omega,by simp only;omega,by simp only;omega,by simp only;rw[←Nat.add_assoc];exact y9o r6,u,by rw[show k+(b+1)=k+1+b by omega];exact hu,by simp only;rw[r7,show k+1+(b+1)=k+1+b+1 by omega]⟩ (by simp only;omega)
     repeat' first|(apply z1f;refine z07 (z0e (u:=z1b u) hui) rfl rfl ?_)|(apply z0b;first|refine z0c (z0e (u:=z1b u) hui) rfl rfl ?_| refine z0c (z0e (u:=z1b z) hzi) rfl rfl ?_)|(apply z01;refine z07 (za5 rfl (by omega) (by rw[hln];omega) (by rw[hln,hsub,zA4,r1];omega) rfl) rfl rfl ?_)|(apply z02;refine z0c (za5 rfl (by omega) (by rw[hln];omega) (by rw[hln,hsub,zA4,r1];omega) rfl) rfl rfl ?_)|(apply z14;refine z07 (zhy rfl) rfl rfl ?_)|refine z04 ?_|refine fk (fun _=>?_) fun _=>?_
     all_goals exact zD8
    ·rw[zAy hzu]at r7
     have hset:r.set ((a:Nat):Int).toNat u=r.set a u:=by rw[zA9]
     have ih':=ih (a+1,b+1,r.set a u) ⟨by simp[r1],by simp only;omega,by simp only;omega,by simp only;omega,by simp only;omega,by
      simp only
      rw[List.drop_set_of_lt (by omega),←Nat.add_assoc];exact y9o r6,u,by rw[show k+(b+1)=k+1+b by omega];exact hu,by
      simp only
      rw[zj4 (x:=u) (by rw[zAp (by omega)]),List.take_set_of_le (zAj _),r7,show k+1+(b+1)=k+1+b+1 by omega]
      simp⟩ (by simp only;omega)
     repeat' first|(apply z1f;refine z07 (z0e (u:=z1b u) hui) rfl rfl ?_)|(apply z0b;first|refine z0c (z0e (u:=z1b u) hui) rfl rfl ?_| refine z0c (z0e (u:=z1b z) hzi) rfl rfl ?_)|(apply z01;first|refine z07 (z1a rfl (by simp only[zA4];omega)) rfl rfl ?_| refine z07 (za5 rfl (by omega) (by rw[hln];omega) (by rw[hln,hsub,zA4,r1];omega) rfl) rfl rfl ?_)|(apply z02;refine z0c (za5 rfl (by omega) (by rw[hln];omega) (by rw[hln,hsub,zA4,r1];omega) rfl) rfl rfl ?_)|(apply z14;refine z07 (zhy rfl) rfl rfl ?_)|(apply z0x;refine z3w u hv hset ?_)|refine z04 ?_|refine fk (fun _=>?_) fun _=>?_
     all_goals exact zD8
   ·have hbe:k+1+b=l.length:=by omega
    rw[List.drop_eq_nil_of_le (by omega),cq,List.append_nil]at r7
    have hspl:z0g (r.map rcc) ((a:Nat):Int).toNat (List.replicate ((r.map rcc).length-((a:Nat):Int).toNat) [.lit (.int .i32 0)])=(z0g r a (List.replicate (r.length-a) 0)).map rcc:=by
     rw[zA9,zA4,show([.lit (.int .i32 0)]:List D)=rcc 0 from rfl,←List.map_replicate,zar]
    have hres:(z0g r a (List.replicate (r.length-a) 0)).take ((a:Nat):Int).toNat=cpt l:=by
     rw[zA9,z8v,←r7]
    have hlen2:(z0g r a (List.replicate (r.length-a) 0)).length=r.length:=z0m _ _ _
    generalize z0g r a (List.replicate (r.length-a) 0)=r2 at *
    repeat' first|(apply z0r;(refine y6l (e:=21) (z0:=.int .i32 0) rfl (z2d (by kernel_rfl)) rfl rfl rfl (by simp only[zA4];omega) ?_;rw[hspl];refine zgz 1000 rfl ?_))|(apply z98;first|refine z07 (zjw rfl (by omega) (by simp only[zA4];omega) rfl) rfl rfl ?_| refine z07 (zef (g:=rcc) rfl (by omega) (by omega) fun _=>rfl) rfl rfl ?_)|(apply z14;refine z07 (zhy rfl) rfl rfl ?_)|refine z04 ?_|refine fk (fun _=>?_) fun _=>?_
    all_goals try (exfalso;rw[hln]at *;omega)
    all_goals (rw[←hres];exact z03 func94 _ z1h ⟨rfl,rfl⟩)
  ·rw[zAy he]at k2
   have ih':=ih (k+1) ⟨by omega,y,hy,by rw[zj4 hy,k2];simp⟩ (by omega)
   repeat' first|(apply z0b;first|refine z0c (z0e (u:=z1b y) hyi) rfl rfl ?_| refine z0c (z0e (u:=z1b x) hxi) rfl rfl ?_)|(apply z02;refine z0c (z1a rfl (by simp only[zA4];omega)) rfl rfl ?_)|(apply z14;refine z07 (z18 rfl) rfl rfl ?_)|refine z04 ?_|refine fk (fun _=>?_) fun _=>?_
   all_goals exact zD8
 ·have hke:k+1=l.length:=by omega
  rw[hke,zAs,cq,List.append_nil,List.take_length]at k2
  rw[k2]
  exact zD89
open Go.Ab Go.Ax Go.Rx
def zdo(n:Nat):Prop:=∀M:List Int,M.length≤n→z0u prog 93 [.ref (0,1000)] [((0,1000),.row 21 1 (M.map rcc))] [((0,1000),.row 21 1 ((srt M).map rcc))] (.tup [])
def ends(r:List Rg):List Int:=r.flatMap fun x=>[x.1,x.2+1]
def z4j(L:List (List Rg)):List Int:=[0,1114112]++L.flatMap ends
def z8o(L:List (List Rg)):List Int:=cpt (srt (z4j L))
theorem y1h{N:Nat}(hS:zdo N)(L:List (List Rg))(hN:(z4j L).length≤N)(hN2:N≤200000000)(hr:∀r∈L,∀x∈r,0≤x.1∧x.1≤1114111∧0≤x.2∧x.2≤1114111)(hl:L.length≤200000000)(hl2:∀r∈L,r.length≤200000000) :
 z0a prog 56 [.d (lvs L)] (.d (.slice ((z8o L).map rcc))):=by
 refine z0q fun H=>?_
 have hss:=hS (z4j L) hN
 have hcc:=zux (srt (z4j L)) (by rw[zls];omega)
 refine z05 func56 (by kernel_rfl) rfl (by simp) ?_
 dsimp only[f56]
 repeat' first|(apply zqq;refine zj9 rfl rfl rfl rfl rfl rfl rfl rfl rfl (by decide) ?_)|refine z04 ?_|fail
 refine z1d 8 1000 ?_
 refine z0f ?_
 refine z00 (z0s (fun q:Nat × List Int=>⟨35,[(3,.ref (0,1000)),(9,.d (lvs L)),(10,I .i64 L.length),(11,I .i64 (q.1:Nat))],[(1000,.row 21 1 (q.2.map rcc))],H⟩) (fun q=>q.1≤L.length∧q.2++(L.drop q.1).flatMap ends=z4j L) (fun q=>L.length-q.1) ?_ (0,[0,1114112]) ⟨zAf _,rfl⟩) rfl rfl
 rintro⟨i,acc⟩ ⟨i1,i2⟩ ih
 simp only at i1 i2 ih⊢
 by_cases hlt:i<L.length
 ·obtain⟨r,hri⟩:∃r,L[i]? =some r:=⟨_,zA0 hlt⟩
  have hrm:=zA2 hri
  have hrr:=hr r hrm
  have hrl:=hl2 r hrm
  rw[drop_cons hri,List.flatMap_cons]at i2
  repeat' first|(apply z01;refine z07 (z11 (ys:=L.map fun r=>[rgs r]) rfl (idx (g:=fun r=>[rgs r]) hri)) rfl rfl ?_)|refine z04 ?_|refine fk (fun _=>?_) fun _=>?_
  all_goals try omega
  refine z0f ?_
  refine z00 (z0s (fun q:Nat × List Int=>⟨35,[(3,.ref (0,1000)),(9,.d (lvs L)),(10,I .i64 L.length),(11,I .i64 (i:Nat)),(15,.d (rgs r)),(16,I .i64 r.length),(17,I .i64 (q.1:Nat))],[(1000,.row 21 1 (q.2.map rcc))],H⟩) (fun q=>q.1≤r.length∧q.2++(ends (r.drop q.1)++(L.drop (i+1)).flatMap ends)=z4j L) (fun q=>r.length-q.1) ?_ (0,acc) ⟨zAf _,i2⟩) rfl rfl
  rintro⟨j,acc2⟩ ⟨j1,j2⟩ ihj
  simp only at j1 j2 ihj⊢
  by_cases hj:j<r.length
  ·obtain⟨x,hx⟩:∃x,r[j]? =some x:=⟨_,zA0 hj⟩
   obtain⟨x1,x2,x3,x4⟩:=hrr x (zA2 hx)
   have ha2:acc2.length≤N:=by have:=congrArg List.length j2;rw[zAa]at this;omega
   rw[drop_cons hx,ends,List.flatMap_cons,←ends]at j2
   have ihj':=ihj (j+1,acc2++[x.1,x.2+1]) ⟨by simp only;omega,by simp only;rw[←j2];simp⟩ (by simp only;omega)
   repeat' first|(apply z01;refine z07 (z11 (ys:=r.map rgc) rfl (idx (g:=rgc) hx)) rfl rfl ?_)|(apply z0t;refine z07 (z16 (zc9 (by omega) (by omega))) rfl rfl ?_)|(apply z14;refine zfi (g:=rcc) (r:=[x.1,x.2+1]) rfl rfl rfl rfl rfl (fun _=>rfl) rfl rfl (by decide) (by simp;omega) ?_)|refine z04 ?_|refine fk (fun _=>?_) fun _=>?_
   all_goals try omega
   all_goals refine z1d 28 1000 ?_
   all_goals exact z00 ihj' rfl rfl
  ·obtain rfl:j=r.length:=by omega
   rw[zAs,ends,List.flatMap_nil,List.nil_append]at j2
   have ih':=ih (i+1,acc2) ⟨by simp only;omega,j2⟩ (by simp only;omega)
   all_goals exact zD84
 ·obtain rfl:i=L.length:=by omega
  rw[zAs,List.flatMap_nil,List.append_nil]at i2
  subst i2
  repeat' first|(apply z06;first|refine z4u hss ?_| refine z4u hcc ?_)|refine z04 ?_|refine fk (fun _=>?_) fun _=>?_
  all_goals try omega
  all_goals exact z03 func56 _ z1h ⟨rfl,rfl⟩
def okP(n m:Nat)(k:Int × Int):Prop:=-1≤k.1∧k.1<n∧-1≤k.2∧k.2<m
abbrev bsP(F G:List Bool)(A C:List (List Arc))(op:Int):List (Nm × Blk):=[((1,3),BX F A),((1,4),BX G C),((1,5),.box [I .i64 op])]
theorem y3g(F G:List Bool)(A C:List (List Arc))(op:Int)(k:Int × Int)(hk:okP F.length G.length k):z0u prog 105 [pcP k,.ptr (1,5) 0,.ptr (1,3) 0,.ptr (1,4) 0] (bsP F G A C op) [] (B (z7w op ((⟨F,A⟩:Au).fin k.1) ((⟨G,C⟩:Au).fin k.2))):=by
 refine z0v fun H hH=>?_
 have h3:H 1 3=some (BX F A):=hH ((1,3),BX F A) (by simp)
 have h4:H 1 4=some (BX G C):=hH ((1,4),BX G C) (by simp)
 have h5:H 1 5=some (.box [I .i64 op]):=hH ((1,5),.box [I .i64 op]) (by simp)
 have hf1:=zjm ⟨F,A⟩ k.1 hk.2.1
 have hf2:=zjm ⟨G,C⟩ k.2 hk.2.2.2
 have hc:=zsm op ((⟨F,A⟩:Au).fin k.1) ((⟨G,C⟩:Au).fin k.2)
 generalize (⟨F,A⟩:Au).fin k.1=x at *
 generalize (⟨G,C⟩:Au).fin k.2=y at *
 refine z05 func105 (by kernel_rfl) rfl (by simp) ?_
 dsimp only[f105]
 repeat' first|(apply z0b;first|refine z0c (z6z (b:=BX G C) (cs:=auc ⟨G,C⟩) rfl rfl rfl) rfl (bkN h4) ?_| refine z0c (z6z (b:=BX F A) (cs:=auc ⟨F,A⟩) rfl rfl rfl) rfl (bkN h3) ?_| refine z5c h5 ?_)|(apply z0l;first|refine z3t hf1 ?_| refine z3t hf2 ?_| refine z3t hc ?_)|(apply z1n;refine z09 z3s ?_)|refine z04 ?_|fail
 all_goals exact z03 func105 _ z1h ⟨rfl,rfl⟩
def prE(op:Int)(l m:List Arc)(pts:List Int)(i:Nat):Option (Go.Ax.Edge (Int × Int)) :=
 if zf9 op (nxt l (pts.getD i 0)) (nxt m (pts.getD i 0))=true then none else some (pts.getD i 0,pts.getD (i+1) 0-1,(nxt l (pts.getD i 0),nxt m (pts.getD i 0)))
def z4c(l m:List Arc):List Int:=z8o [z5f l,z5f m]
def z6q(op:Int)(l m:List Arc):List (Go.Ax.Edge (Int × Int)):=(List.range ((z4c l m).length-1)).filterMap (prE op l m (z4c l m))
theorem z56{α β:Type}(f:α→Option β)(l:List α):(l.filterMap f).length≤l.length:=List.length_filterMap_le f l
theorem znn(L:List (List Rg)):1≤(z8o L).length:=by
 have h:=(zhg (Go.Ax.zan (z4j L))).2 0
 have:(0:Int)∈z8o L:=by
  rw[z8o,h]
  exact(Go.Ax.z8c _).mem_iff.2 (by simp[z4j])
 exact List.length_pos_of_mem this
theorem za2{L:List (List Rg)}(hr:∀r∈L,∀x∈r,0≤x.1∧x.1≤1114111∧0≤x.2∧x.2≤1114111):∀z∈z8o L,0≤z∧z≤1114112:=fun z hz=>by
 rw[z8o,(zhg (Go.Ax.zan (z4j L))).2 z,(Go.Ax.z8c _).mem_iff,z4j,zAt]at hz
 rcases hz with hz|hz
 ·simp at hz;omega
 ·rw[List.mem_flatMap]at hz
  obtain⟨r,hrr,hz⟩:=hz
  rw[ends,List.mem_flatMap]at hz
  obtain⟨x,hx,hz⟩:=hz
  have:=hr r hrr x hx
  simp at hz;omega
theorem zo2:∀r:List Rg,(ends r).length=2*r.length
 | []=>rfl
 | x::r=>by rw[ends,List.flatMap_cons,zAa,←ends,zo2 r];simp only[zAk,List.length_nil];omega
theorem y3r{N:Nat}(hS:zdo N)(hN:N≤200000000)(F G:List Bool)(A C:List (List Arc))(op:Int)(hA:zfy F A)(hC:zfy G C)(k:Int × Int)(hk:okP F.length G.length k)
 (hsz:2+2*((⟨F,A⟩:Au).arcs k.1).length+2*((⟨G,C⟩:Au).arcs k.2).length≤N) :
 z0u prog 108 [pcP k,.ptr (1,3) 0,.ptr (1,4) 0,.ptr (1,5) 0] (bsP F G A C op) [] (.d (.slice ((z6q op ((⟨F,A⟩:Au).arcs k.1) ((⟨G,C⟩:Au).arcs k.2)).map ped))):=by
 refine z0v fun H hH=>?_
 have h3:H 1 3=some (BX F A):=hH ((1,3),BX F A) (by simp)
 have h4:H 1 4=some (BX G C):=hH ((1,4),BX G C) (by simp)
 have h5:H 1 5=some (.box [I .i64 op]):=hH ((1,5),.box [I .i64 op]) (by simp)
 have hf1:=zo9 ⟨F,A⟩ k.1 (by have:=hA.len;have:=hk.2.1;simp only;omega)
 have hf2:=zo9 ⟨G,C⟩ k.2 (by have:=hC.len;have:=hk.2.2.2;simp only;omega)
 have arcP:∀ {F:List Bool} {A:List (List Arc)},zfy F A→∀q:Int,okA none ((⟨F,A⟩:Au).arcs q)∧((⟨F,A⟩:Au).arcs q).length≤2000000∧∀x∈(⟨F,A⟩:Au).arcs q,0≤x.1∧x.1≤x.2.1∧x.2.1≤1114111:=fun {F A} hA q=>by
  rw[Au.arcs]
  split
  ·exact⟨trivial,by simp,by simp⟩
  ·cases hq:A[q.toNat]? with
   | none=>rw[List.getD,hq];exact⟨trivial,by simp,by simp⟩
   | some l =>
    rw[List.getD,hq]
    obtain⟨a1,a2,a3⟩:=hA.arc l (zA2 hq)
    exact⟨a1,a2,fun x hx=>by have:=a3 x hx;omega⟩
 obtain⟨l0,l1,l2⟩:=arcP hA k.1
 obtain⟨m0,m1,m2⟩:=arcP hC k.2
 generalize (⟨F,A⟩:Au).arcs k.1=l at *
 generalize (⟨G,C⟩:Au).arcs k.2=m at *
 have hr1:=zfm l l1
 have hr2:=zfm m m1
 have hrr:∀r∈[z5f l,z5f m],∀x∈r,0≤x.1∧x.1≤1114111∧0≤x.2∧x.2≤1114111:=fun r hr x hx=>by
  simp only[zAc,List.not_mem_nil,or_false]at hr
  rcases hr with rfl|rfl
  ·simp only[z5f,List.mem_map]at hx;obtain⟨y,hy,rfl⟩:=hx;have:=l2 y hy;simp only;omega
  ·simp only[z5f,List.mem_map]at hx;obtain⟨y,hy,rfl⟩:=hx;have:=m2 y hy;simp only;omega
 have hll:(z5f l).length=l.length:=by simp[z5f]
 have hml:(z5f m).length=m.length:=by simp[z5f]
 have hel:(z4j [z5f l,z5f m]).length=2+2*l.length+2*m.length:=by
  simp[z4j,zo2,hll,hml];omega
 have hcuts:=y1h hS [z5f l,z5f m] (by omega) hN hrr (by simp) fun r hr=>by simp only[zAc,List.not_mem_nil,or_false]at hr;rcases hr with rfl|rfl <;> omega
 have hpr:=za2 hrr
 have hpl:=znn [z5f l,z5f m]
 have hpl2:(z8o [z5f l,z5f m]).length≤200000000:=by have:=zsb (Go.Ax.srt (z4j [z5f l,z5f m]));rw[Go.Ax.zls,hel]at this;rw[z8o];omega
 have hst1:=fun c:Int=>y2h l (by omega) l0 c
 have hst2:=fun c:Int=>y2h m (by omega) m0 c
 have hus:=zt5 op
 have hEq:z6q op l m=(List.range ((z4c l m).length-1)).filterMap (prE op l m (z4c l m)):=rfl
 rw[hEq]
 change z0a prog 56 [.d (lvs [z5f l,z5f m])] (.d (.slice ((z4c l m).map rcc)))at hcuts
 change ∀z∈z4c l m,0≤z∧z≤1114112 at hpr
 change 1≤(z4c l m).length at hpl
 change (z4c l m).length≤200000000 at hpl2
 generalize z4c l m=pts at *
 clear hEq
 refine z05 func108 (by kernel_rfl) rfl (by simp) ?_
 dsimp only[f108]
 repeat' first|(apply z0b;first|refine z0c (z6z (b:=BX G C) (cs:=auc ⟨G,C⟩) rfl rfl rfl) rfl (bkN h4) ?_| refine z0c (z6z (b:=BX F A) (cs:=auc ⟨F,A⟩) rfl rfl rfl) rfl (bkN h3) ?_)|(apply z06;first|refine z1o hr1 ?_| refine z1o hr2 ?_| refine z1o hcuts ?_)|(apply z0l;first|refine z3t hf1 ?_| refine z3t hf2 ?_)|(apply z1n;refine z09 z3s ?_)|refine z04 ?_|fail
 all_goals try omega
 refine z1j 9 1001 184 4 rfl rfl rfl ?_
 refine z0f ?_
 refine z00 (z0s (fun q:Nat=>⟨66,[(3,.ptr (2,5) 0),(6,.d (zde l)),(7,.d (zde m)),(8,.d (.slice (pts.map rcc))),(9,.ref (0,1001)),(28,I .i64 ((pts.length:Int)-1)),(29,I .i64 (q:Nat))],[(1001,.row 184 4 (((List.range q).filterMap (prE op l m pts)).map ped))],H⟩) (fun q=>q≤pts.length-1) (fun q=>pts.length-1-q) ?_ 0 (zAf _)) rfl rfl
 intro i hi ih
 by_cases hlt:i<pts.length-1
 ·obtain⟨x,hx⟩:∃x,pts[i]? =some x:=⟨_,zA0 (by omega)⟩
  obtain⟨y,hy⟩:∃y,pts[i+1]? =some y:=⟨_,zA0 (by omega)⟩
  have hyi:pts[(((i:Nat):Int)+1).toNat]? =some y:=by rw[show(((i:Nat):Int)+1).toNat=i+1 by omega];exact hy
  have hxr:=hpr x (zA2 hx)
  have hyr:=hpr y (zA2 hy)
  have hs1:=hst1 x
  have hs2:=hst2 x
  have hu:=hus (nxt l x) (nxt m x)
  have hfl:=z56 (prE op l m pts) (List.range i)
  rw[List.length_range]at hfl
  have ih':=ih (i+1) (by omega) (by omega)
  have hstep:(List.range (i+1)).filterMap (prE op l m pts)=(List.range i).filterMap (prE op l m pts)++(prE op l m pts i).toList:=by
   rw[List.range_succ,List.filterMap_append];simp[List.filterMap_cons];cases prE op l m pts i <;> rfl
  rw[hstep,prE,z34 hx,z34 hy]at ih'
  clear ih hstep
  generalize (List.range i).filterMap (prE op l m pts)=out at *
  generalize nxt l x=p1 at *
  generalize nxt m x=p2 at *
  by_cases hul:zf9 op p1 p2=true
  ·rw[zAz hul,Option.toList_none,List.append_nil]at ih'
   rw[hul]at hu
   repeat' first|(apply z1f;refine zcl h5 ?_)|(apply z02;refine z0c (z11 (ys:=pts.map rcc) rfl (idx (g:=rcc) hx)) rfl rfl ?_)|(apply z06;refine z1o hu ?_)|(apply z0l;first|refine z3t hs1 ?_| refine z3t hs2 ?_)|refine z04 ?_|refine fk (fun _=>?_) fun _=>?_
   all_goals exact zD25
  ·rw[zAy hul,Option.toList_some]at ih'
   rw[Bool.not_eq_true]at hul
   rw[hul]at hu
   repeat' first|(apply z1f;refine zcl h5 ?_)|(apply z02;first|refine z0c (z11 (ys:=pts.map rcc) rfl (idx (g:=rcc) hx)) rfl rfl ?_| refine z0c (z11 (ys:=pts.map rcc) rfl (zam (g:=rcc) hyi)) rfl rfl ?_)|(apply z19;refine z0c (z1i (zc9 (by omega) (by omega))) rfl rfl ?_)|(apply z4i;refine z4y (g:=ped) (by first|exact rfl|exact⟨_,rfl,rfl,rfl⟩) rfl rfl ((x,y-1,(p1,p2)):Go.Ax.Edge (Int × Int)) rfl rfl rfl rfl rfl rfl rfl (by decide) (by omega) ?_)|(apply z06;refine z1o hu ?_)|(apply z0l;first|refine z3t hs1 ?_| refine z3t hs2 ?_)|refine z04 ?_|refine fk (fun _=>?_) fun _=>?_
   all_goals try (exfalso;first|omega|(simp at *;done))
   all_goals refine z1d 63 1001 ?_
   all_goals exact z00 ih' rfl rfl
 ·obtain rfl:i=pts.length-1:=by omega
  clear ih
  repeat' first|refine z04 ?_|refine fk (fun _=>?_) fun _=>?_
  all_goals try omega
  all_goals refine z0o 1001 rfl ?_
  all_goals exact z03 func108 _ z1h ⟨rfl,rfl⟩
theorem zoj{F:List Bool}{A:List (List Arc)}(hA:zfy F A)(q:Int):okA none ((⟨F,A⟩:Au).arcs q)∧∀x∈(⟨F,A⟩:Au).arcs q,0≤x.1∧x.1≤x.2.1∧x.2.1≤1114111∧0≤x.2.2∧x.2.2<F.length:=by
 rw[Au.arcs]
 split
 ·exact⟨trivial,by simp⟩
 ·cases hq:A[q.toNat]? with
  | none=>rw[List.getD,hq];exact⟨trivial,by simp⟩
  | some l =>
   rw[List.getD,hq]
   obtain⟨a1,a2,a3⟩:=hA.arc l (zA2 hq)
   exact⟨a1,a3⟩
theorem zov{F:List Bool}{A:List (List Arc)}{a:Nat}(h:∀l∈A,l.length≤a)(q:Int):((⟨F,A⟩:Au).arcs q).length≤a:=by
 rw[Au.arcs]
 split
 ·simp
 ·cases hq:A[q.toNat]? with
  | none=>rw[List.getD,hq];simp
  | some l=>rw[List.getD,hq];exact h l (zA2 hq)
theorem zsu{l:List Arc}{n:Nat}(h0:okA none l)(h:∀x∈l,0≤x.2.2∧x.2.2<n)(c:Int):-1≤nxt l c∧nxt l c<n:=by
 refine⟨y0y (p:=none) h0 c,?_⟩
 by_cases e:nxt l c=-1
 ·rw[e];omega
 ·obtain⟨y,hy,e2⟩:=zjj e
  have:=h y hy;omega
theorem ztu{l m:List Arc}(hl:∀x∈l,0≤x.1∧x.1≤x.2.1∧x.2.1≤1114111)(hm:∀x∈m,0≤x.1∧x.1≤x.2.1∧x.2.1≤1114111):∀r∈[z5f l,z5f m],∀x∈r,0≤x.1∧x.1≤1114111∧0≤x.2∧x.2≤1114111:=fun r hr x hx=>by
 simp only[zAc,List.not_mem_nil,or_false]at hr
 rcases hr with rfl|rfl
 ·simp only[z5f,List.mem_map]at hx;obtain⟨y,hy,rfl⟩:=hx;have:=hl y hy;simp only;omega
 ·simp only[z5f,List.mem_map]at hx;obtain⟨y,hy,rfl⟩:=hx;have:=hm y hy;simp only;omega
theorem ztr(L:List (List Rg)):(z8o L).Pairwise (· <·):=(zhg (Go.Ax.zan (z4j L))).1
theorem zkj{op:Int}{l m:List Arc}{e:Go.Ax.Edge (Int × Int)}(h:e∈z6q op l m):∃i x y,(z4c l m)[i]? =some x∧(z4c l m)[i+1]? =some y∧e=(x,y-1,(nxt l x,nxt m x))∧zf9 op (nxt l x) (nxt m x)=false:=by
 rw[z6q,List.mem_filterMap]at h
 obtain⟨i,hi,he⟩:=h
 rw[List.mem_range]at hi
 obtain⟨x,hx⟩:∃x,(z4c l m)[i]? =some x:=⟨_,zA0 (by omega)⟩
 obtain⟨y,hy⟩:∃y,(z4c l m)[i+1]? =some y:=⟨_,zA0 (by omega)⟩
 rw[prE,z34 hx,z34 hy]at he
 split at he
 ·cases he
 ·rename_i hu
  simp only[zAh]at he
  exact⟨i,x,y,hx,hy,he.symm,by simpa using hu⟩
theorem zxp{op:Int}{F G:List Bool}{A C:List (List Arc)}(hA:zfy F A)(hC:zfy G C)(k:Int × Int):edE (z6q op ((⟨F,A⟩:Au).arcs k.1) ((⟨G,C⟩:Au).arcs k.2))∧∀e∈z6q op ((⟨F,A⟩:Au).arcs k.1) ((⟨G,C⟩:Au).arcs k.2),okP F.length G.length e.2.2:=by
 obtain⟨l0,l1⟩:=zoj hA k.1
 obtain⟨m0,m1⟩:=zoj hC k.2
 generalize (⟨F,A⟩:Au).arcs k.1=l at *
 generalize (⟨G,C⟩:Au).arcs k.2=m at *
 have hr:=za2 (ztu (fun x hx=>by have:=l1 x hx;omega) fun x hx=>by have:=m1 x hx;omega)
 have hlt:=ztr [z5f l,z5f m]
 have hlen:=zmk (B:=1114112) hlt fun z hz=>by have:=hr z hz;omega
 refine⟨⟨?_,fun e he=>?_⟩,fun e he=>?_⟩
 ·have:=z56 (prE op l m (z4c l m)) (List.range ((z4c l m).length-1))
  rw[List.length_range]at this
  rw[z6q];rw[z4c]at *;omega
 ·obtain⟨i,x,y,hx,hy,rfl,_⟩:=zkj he
  exact zD61
 ·obtain⟨i,x,y,hx,hy,rfl,_⟩:=zkj he
  have h1:=zsu (n:=F.length) l0 (fun z hz=>by have:=l1 z hz;omega) x
  have h2:=zsu (n:=G.length) m0 (fun z hz=>by have:=m1 z hz;omega) x
  exact⟨h1.1,h1.2,h2.1,h2.2⟩
def zj2(F G:List Bool)(A C:List (List Arc))(op:Int):Option Au:=exL (fun k=>z7w op ((⟨F,A⟩:Au).fin k.1) ((⟨G,C⟩:Au).fin k.2)) (fun k=>z6q op ((⟨F,A⟩:Au).arcs k.1) ((⟨G,C⟩:Au).arcs k.2)) 1048576 1048577 0 [(0,0)] ⟨[],[]⟩
theorem zs9{N a c:Nat}(hS:zdo N)(hN:N≤200000000)(F G:List Bool)(A C:List (List Arc))(op:Int)(hA:zfy F A)(hC:zfy G C)(ha:∀l∈A,l.length≤a)(hc:∀l∈C,l.length≤c)(hac:2+2*a+2*c≤N) :
 z0a prog 78 [.d (auD ⟨F,A⟩),.d (auD ⟨G,C⟩),I .i64 op] (exR (zj2 F G A C op)):=by
 refine z0q fun H=>?_
 have hex:z0u prog 113 [pcP (0,0),.fn (.func 105) [] [.ptr (0,5) 0,.ptr (0,3) 0,.ptr (0,4) 0],.fn (.func 108) [] [.ptr (0,3) 0,.ptr (0,4) 0,.ptr (0,5) 0],I .i64 1048576] [((0,3),BX F A),((0,4),BX G C),((0,5),.box [I .i64 op])] [] (exR (zj2 F G A C op)):=z0v fun H hH =>
  zq2 (BX F A) (BX G C) (.box [I .i64 op]) (okP F.length G.length) (fun k=>z7w op ((⟨F,A⟩:Au).fin k.1) ((⟨G,C⟩:Au).fin k.2)) (fun k=>z6q op ((⟨F,A⟩:Au).arcs k.1) ((⟨G,C⟩:Au).arcs k.2)) (0,0) 1048576 (by decide) (by decide) ⟨by decide,by have:=hA.pos;simp only;omega,by decide,by have:=hC.pos;simp only;omega⟩
   (fun k hk=>y3g F G A C op k hk) (fun k hk=>y3r hS hN F G A C op hA hC k hk (by have:=zov (F:=F) ha k.1;have:=zov (F:=G) hc k.2;omega)) (fun k hk=>zxp hA hC k) H (hH ((0,3),BX F A) (by simp)) (hH ((0,4),BX G C) (by simp)) (hH ((0,5),.box [I .i64 op]) (by simp))
 generalize zj2 F G A C op=o at *
 cases o with
 | some x =>
  exact zD60
 | none =>
  exact zD60
def zzc(o:Option Au):PV:=match o with
 | some a=>.tup [.d (auD a),I .i64 0]
 | none=>.tup [.d (auD ⟨[],[]⟩),I .i64 2]
noncomputable def yb5(a b:Au)(op:Int):Option Au:=(zj2 a.F b.F a.A b.A op).bind fun x=>y75 x.F x.A 256
theorem ybs{N n m:Nat}(hS:zdo N)(hN:N≤200000000)(a b:Au)(op:Int)(hfa:zqr a)(hfb:zqr b)(ha:vAu a=0)(hb:vAu b=0)(h1:1≤op)(h4:op≤4)(hA:zfy a.F a.A)(hB:zfy b.F b.A)(hn:∀l∈a.A,l.length≤n)(hm:∀l∈b.A,l.length≤m)(hnm:2+2*n+2*m≤N)
 (hX:∀x,zj2 a.F b.F a.A b.A op=some x→zfy x.F x.A):z0a prog 41 [.d (auD a),.d (auD b),I .i64 op] (zzc (yb5 a b op)):=by
 refine z0q fun H=>?_
 have hva:=zb0 a hfa
 have hvb:=zb0 b hfb
 rw[ha]at hva
 rw[hb]at hvb
 have hp:=zs9 hS hN a.F b.F a.A b.A op hA hB hn hm hnm
 rw[yb5]
 obtain⟨F,A⟩:=a
 obtain⟨G,C⟩:=b
 simp only at hp hX⊢
 generalize zj2 F G A C op=o at *
 cases o with
 | none =>
  simp only[exR]at hp
  simp only[Option.bind_none,zzc]
  refine z05 func41 (by kernel_rfl) rfl (by simp) ?_
  dsimp only[f41]
  repeat' first|(apply z06;first|refine z1o hva ?_| refine z1o hvb ?_| refine z1o hp ?_)|(apply z1n;refine z09 z3s ?_)|refine z04 ?_|refine fk (fun _=>?_) fun _=>?_
  all_goals try (exfalso;first|omega|(simp at *;done)|(simp at *;omega))
  all_goals exact z03 func41 _ (z0h rfl rfl rfl rfl rfl rfl rfl) ⟨rfl,rfl⟩
 | some x =>
  obtain⟨xF,xA⟩:=x
  have hmi:=zu9 _ _ (hX _ rfl) 256 (by decide) (by decide)
  simp only at hmi
  simp only[exR]at hp
  simp only[Option.bind_some]
  generalize y75 xF xA 256=o2 at *
  cases o2 with
  | none =>
   exact zD35
  | some y =>
   exact zD35
def ybd:Au:=⟨[true],[[(0,1114111,0)]]⟩
theorem y4u(a:Au){p:PV}(hp:∃(b:Au) (e:Int),p=.tup [.d (auD b),I .i64 e])(h:z0a prog 41 [.d (auD ybd),.d (auD a),I .i64 3] p):z0a prog 40 [.d (auD a)] p:=by
 refine z0q fun H=>?_
 obtain⟨⟨G,C⟩,e,rfl⟩:=hp
 obtain⟨F,A⟩:=a
 refine z05 func40 (by kernel_rfl) rfl (by simp) ?_
 dsimp only[f40]
 repeat' first|(apply z06;refine z1o h ?_)|(apply z1n;refine z09 z3s ?_)|refine z04 ?_|fail
 all_goals exact z03 func40 _ (z0h rfl rfl rfl rfl rfl rfl rfl) ⟨rfl,rfl⟩
end Go.Proofs.YtmcggompdmngmaaGreatDoor
