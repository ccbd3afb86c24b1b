/- A part of the proof: Shb to A29. -/
import Derived.Test.YthdfkabdoidjfaaGreatDoorUc
import Derived.Shelf.Small.Bits
import Derived.Test.YthdfkabdoidjfaaGreatDoorProg
import Derived.Test.YthdfkabdoidjfaaGreatDoorU1
import Derived.Test.YthdfkabdoidjfaaGreatDoorUy
import Derived.Test.YthdfkabdoidjfaaGreatDoorUs
import Derived.Test.YthdfkabdoidjfaaGreatDoorUq
import Derived.Test.YthdfkabdoidjfaaGreatDoorU3
set_option linter.all false
namespace Go.Proofs.YthdfkabdoidjfaaGreatDoor
open Go.Proofs
open Go.Shelf
def zjj:Go.Shelf.Ren:=⟨fun|125=>122|128=>136|129=>137|n=>n,fun|46=>163|3=>3|51=>192|53=>76|4=>4|5=>5|9=>9|n=>n,fun|n=>n⟩
theorem zz5:Go.Proofs.Lays.n125 Tryz.prog zjj:={
 mixed:=by kernel_rfl
 f125:=Tryz.func122.trans (congrArg some (by kernel_rfl))
 f128:=Tryz.func136.trans (congrArg some (by kernel_rfl))
 f129:=Tryz.func137.trans (congrArg some (by kernel_rfl))
 t3:=Tryz.underlying3
 a3:=Tryz.isAgg3
 z3:=Tryz.sizeOf3
 v3:=Tryz.zeroValue3
 t4:=Tryz.underlying4
 a4:=Tryz.isAgg4
 z4:=Tryz.sizeOf4
 v4:=Tryz.zeroValue4
 t5:=Tryz.underlying5
 a5:=Tryz.isAgg5
 z5:=Tryz.sizeOf5
 v5:=Tryz.zeroValue5
 t9:=Tryz.underlying9
 a9:=Tryz.isAgg9
 z9:=Tryz.sizeOf9
 v9:=Tryz.zeroValue9
 t46:=Tryz.underlying163
 a46:=Tryz.isAgg163
 z46:=Tryz.sizeOf163
 v46:=Tryz.zeroValue163
 t51:=Tryz.underlying192
 a51:=Tryz.isAgg192
 z51:=Tryz.sizeOf192
 v51:=Tryz.zeroValue192
 t53:=Tryz.underlying76
 a53:=Tryz.isAgg76
 z53:=Tryz.sizeOf76
 v53:=Tryz.zeroValue76 }
theorem bits_Len (x:Int) (w:World) (h0:0≤x) (h1:x≤18446744073709551615) :
 Calls Tryz.prog 122 #[.int .u64 x] w fun e w'=>e=.returned (.int .i64 (Lib.bitLen x.toNat))∧w'=w:=Any.bits_Len zz5 x w h0 h1
end Go.Proofs.YthdfkabdoidjfaaGreatDoor
namespace Go.Proofs.YthdfkabdoidjfaaGreatDoor
open Go.Ab Go.Ax
set_option maxHeartbeats 20000000
set_option maxRecDepth 100000
attribute [local irreducible] Run Ops Op1 z1d Val Tr z08 z13 NF Rel z2h z2g
abbrev rcc (x:Int):List D:=[z0v x]
theorem z1g (a b:Int):z08 Tryz.prog 133 [I .i32 a,I .i32 b] (B (decide (a<b))):=by
 refine z0g fun H=>?_
 have h1:=zf4 a
 have h2:=zf4 b
 refine z03 Tryz.func133 (by kernel_rfl) rfl (by simp) ?_
 dsimp only[Tryz.f133]
 repeat' (first|(apply z06;(refine z1i h1 ?_))|refine stq ?_|fail)
 all_goals try (exfalso;omega)
 all_goals exact z05 Tryz.func133 _ z0e ⟨rfl,rfl⟩
theorem zjd {l A B:List Int} {y:Int} {i:Nat} (h:l=A++y::B) (hi:i=A.length):l[i]? =some y:=by subst h hi;simp
theorem zr8 {l A B:List Int} {y z:Int} {i:Nat} (h:l=A++y::B) (hi:i=A.length):l.set i z=A++z::B:=by subst h hi;simp
theorem zl5 (P M T:List Int) (a b:Int) (ha:a=P.length) (hb:b=P.length+M.length) (hlen:P.length+M.length≤200000000) :
 z13 Tryz.prog 127 [.ref (0,1000),I .i64 a,I .i64 b] [((0,1000),.row 21 1 ((P++(M++T)).map rcc))] [((0,1000),.row 21 1 ((P++(srt M++T)).map rcc))] (.tup []):=by
 refine z1e fun H hH=>?_
 have hH0:=hH ((0,1000),.row 21 1 ((P++(M++T)).map rcc)) (by simp)
 refine z03 Tryz.func127 (by kernel_rfl) rfl (by simp) ?_
 dsimp only[Tryz.f127]
 refine z1o 1000 0 1000 hH0 rfl rfl ?_
 repeat' (first|(apply z11;(refine z04 (z16 z1h) rfl rfl ?_))|refine stq ?_|fail)
 all_goals try (exfalso;omega)
 refine z0a ?_
 rw[show P++(M++T)=P++(M.take 1++(M.drop 1++T)) by cases M <;> rfl]
 refine z00 (z0p (fun q:Int × List Int × List Int=>⟨49,[(0,.ref (0,1000)),(1,I .i64 a),(2,I .i64 b),(6,I .i64 q.1),(101000,.al (0,1000) (1,1000))],[(1000,.row 21 1 ((P++(q.2.1++(q.2.2++T))).map rcc))],upd H (0,1000) .gone⟩) (fun q=>(q.2.1++q.2.2).Perm M∧q.2.1.Pairwise (· ≤·)∧((M=[]∧q.1=a+1)∨(0<q.2.1.length∧q.1=a+q.2.1.length))) (fun q=>q.2.2.length) ?_ (a+1,M.take 1,M.drop 1) ⟨by rw[List.take_append_drop],by cases M <;> simp,by cases M with
  | nil=>exact .inl ⟨rfl,rfl⟩
  | cons x M=>exact .inr ⟨by simp,by simp⟩⟩) rfl rfl
 rintro⟨i,A,R⟩ ⟨hp,hasc,hi⟩ ih
 simp only at hp hasc hi ih ⊢
 have hlA:=hp.length_eq
 simp only[zAa] at hlA
 cases R with
 | nil =>
  simp only[List.length_nil] at hlA
  rw[List.append_nil] at hp
  have hib:¬ i<b:=by
   rcases hi with ⟨h0,h⟩|⟨h,h'⟩
   · have:=congrArg List.length h0
     simp only[List.length_nil] at this;omega
   · omega
  rw[zy2 hp.symm hasc]
  repeat' (first|refine stq ?_|refine fk (fun _=>?_) (fun _=>?_))
  all_goals try (exfalso;omega)
  refine z3d (raw:=.row 21 1 ((P++(A++([]++T))).map rcc)) 1000 0 1000 ?_
  refine zc4 Tryz.func127 _ (z27 rfl) ⟨rfl,?_⟩
  simp[z5k,z1t]
 | cons y R =>
  have hi2:i=a+A.length:=by
   rcases hi with ⟨rfl,h⟩|⟨h,h'⟩
   · simp at hlA
   · exact h'
  have hA0:0<A.length:=by
   rcases hi with ⟨rfl,h⟩|⟨h,h'⟩
   · simp at hlA
   · exact h
  simp only[zAk] at hlA
  repeat' (first|refine stq ?_|refine fk (fun _=>?_) (fun _=>?_))
  all_goals try (exfalso;omega)
  refine z0a ?_
  rw[show P++(A++(y::R++T))=P++(A++(y::([]++(R++T)))) by simp]
  refine z00 (z0p (fun q:Int × List Int × List Int=>⟨49,[(0,.ref (0,1000)),(1,I .i64 a),(2,I .i64 b),(6,I .i64 i),(7,I .i64 q.1),(101000,.al (0,1000) (1,1000))],[(1000,.row 21 1 ((P++(q.2.1++(y::(q.2.2++(R++T))))).map rcc))],upd H (0,1000) .gone⟩) (fun q=>q.2.1++q.2.2=A∧q.1=a+q.2.1.length∧∀ s∈q.2.2,y≤s) (fun q=>q.2.1.length) ?_ (i,A,[]) ⟨by simp,by simp only;omega,by simp⟩) rfl rfl
  rintro⟨j,S1,S2⟩ ⟨hS,hj,hS2⟩ ih2
  simp only at hS hj hS2 ih2 ⊢
  have hlS:=congrArg List.length hS
  simp only[zAa] at hlS
  have done:(∀ z∈S1,z≤y)→((S1++y::S2)++R).Perm M∧(S1++y::S2).Pairwise (· ≤·):=fun h=>by
   refine⟨.trans ?_ hp,y5o (by rw[hS];exact hasc) h hS2⟩
   rw[← hS]
   have:(S1++y::S2).Perm (S1++S2++[y]):=by
    rw[zAl]
    exact List.Perm.append_left S1 (List.perm_append_singleton y S2).symm
   refine(this.append_right R).trans ?_
   simp
  rcases Go.Ab.zdf S1 with rfl|⟨S1,s,rfl⟩
  · have hja:¬ j>a:=by simp at hj;omega
    obtain⟨d1,d2⟩:=done (by simp)
    have ih':=ih (i+1,[]++y::S2,R) ⟨d1,d2,.inr ⟨by simp,by simp only[zAa,zAk,List.length_nil] at *;omega⟩⟩ (by simp)
    simp only[zAl,List.cons_append] at ih'
    repeat' (first|refine stq ?_|(refine z19 (fun hg=>?_) (fun hg=>?_)<;> simp only[hg] <;> (try simp only[zA3,zA5,zA6,zA8] at hg)))
    all_goals try (exfalso;omega)
    exact z00 ih' rfl rfl
  · simp only[zAa,zAk,List.length_nil] at hj hlS
    have e0:P++(S1++[s]++(y::(S2++(R++T))))=(P++(S1++[s]))++y::(S2++(R++T)):=by simp
    have e1:P++(S1++[s]++(y::(S2++(R++T))))=(P++S1)++s::(y::(S2++(R++T))):=by simp
    have hy:(P++(S1++[s]++(y::(S2++(R++T)))))[j.toNat]? =some y:=zjd e0 (by simp;omega)
    have hs:(P++(S1++[s]++(y::(S2++(R++T)))))[(j-1).toNat]? =some s:=zjd e1 (by simp;omega)
    have hs1:(P++(S1++[s]++(y::(S2++(R++T))))).set j.toNat s=(P++S1)++s::(s::(S2++(R++T))):=(zr8 e0 (by simp;omega)).trans (by simp)
    have hz:((P++S1)++s::(s::(S2++(R++T))))[(j-1).toNat]? =some s:=zjd rfl (by simp;omega)
    have hs2:((P++S1)++s::(s::(S2++(R++T)))).set (j-1).toNat y=P++(S1++(y::(s::S2++(R++T)))):=(zr8 rfl (by simp;omega)).trans (by simp)
    have hc:=z1g y s
    by_cases hsy:y<s
    · rw[zAi hsy] at hc
      have ih':=ih2 (j-1,S1,s::S2) ⟨by rw[← hS];simp,by simp only;omega,fun z hz=>by
       rw[zAc] at hz
       rcases hz with rfl|hz
       · omega
       · exact hS2 z hz⟩ (by simp)
      repeat' (first|(apply z0b;(first|refine z09 (z0x (u:=z0v y) hy) rfl rfl ?_| refine z09 (z0x (u:=z0v s) hs) rfl rfl ?_))|(apply z02;(refine z09 (z10 rfl (by simp;omega)) rfl rfl ?_))|(apply z0l;(refine z36 hc ?_))|(apply z14;(first|refine z0c s (by first|exact rfl|exact⟨_,rfl,rfl,rfl⟩) rfl rfl rfl rfl hy rfl rfl rfl hs1 ?_|refine z0c y (by first|exact rfl|exact⟨_,rfl,rfl,rfl⟩) rfl rfl rfl rfl hz rfl rfl rfl hs2 ?_))|refine stq ?_|(refine z19 (fun hg=>?_) (fun hg=>?_)<;> simp only[hg] <;> (try simp only[zA3,zA5,zA6,zA8] at hg)))
      all_goals try (exfalso;omega)
      exact z00 ih' rfl rfl
    · rw[zAo hsy] at hc
      obtain⟨d1,d2⟩:=done (fun z hz=>by
       have h1:(S1++[s]).Pairwise (· ≤·):=by rw[← hS,List.pairwise_append] at hasc;exact hasc.1
       have:=zv7 h1 z hz
       omega)
      have ih':=ih (i+1,(S1++[s])++y::S2,R) ⟨d1,d2,.inr ⟨by simp only[zAa,zAk];omega,by simp only[zAa,zAk,List.length_nil] at *;omega⟩⟩ (by simp)
      simp only at ih'
      rw[show P++(S1++[s]++y::S2++(R++T))=P++(S1++[s]++(y::(S2++(R++T)))) by simp] at ih'
      repeat' (first|(apply z0b;(first|refine z09 (z0x (u:=z0v y) hy) rfl rfl ?_| refine z09 (z0x (u:=z0v s) hs) rfl rfl ?_))|(apply z02;(refine z09 (z10 rfl (by simp;omega)) rfl rfl ?_))|(apply z0l;(refine z36 hc ?_))|refine stq ?_|(refine z19 (fun hg=>?_) (fun hg=>?_)<;> simp only[hg] <;> (try simp only[zA3,zA5,zA6,zA8] at hg)))
      all_goals try (exfalso;omega)
      exact z00 ih' rfl rfl
theorem y1r (M:List Int) (lim:Int) (hm:M.length≤12):z13 Tryz.prog 121 [.ref (0,1000),I .i64 0,I .i64 M.length,I .i64 lim] [((0,1000),.row 21 1 (M.map rcc))] [((0,1000),.row 21 1 ((srt M).map rcc))] (.tup []):=by
 refine z1e fun H hH=>?_
 have hH0:=hH ((0,1000),.row 21 1 (M.map rcc)) (by simp)
 have hi:=zl5 [] M [] 0 M.length rfl (by simp) (by simp;omega)
 rw[List.nil_append,List.append_nil,List.nil_append,List.append_nil] at hi
 refine z03 Tryz.func121 (by kernel_rfl) rfl (by simp) ?_
 dsimp only[Tryz.f121]
 refine z1o 1000 0 1000 hH0 rfl rfl ?_
 repeat' (first|refine stq ?_|fail)
 refine z0a ?_
 refine z3c ?_
 repeat' (first|(apply z11;(refine z04 (z1j z1h) rfl rfl ?_))|(apply z06;(refine z2p hi rfl rfl (by decide) ?_))|refine stq ?_|refine fk (fun _=>?_) (fun _=>?_))
 all_goals try (exfalso;omega)
 refine z3d (raw:=.row 21 1 ((srt M).map rcc)) 1000 0 1000 ?_
 refine z05 Tryz.func121 _ (z27 rfl) ⟨rfl,?_⟩
 simp[z5k,z1t]
theorem zcz (x:Int) (h0:0≤x) (h1:x≤18446744073709551615):z08 Tryz.prog 122 [I .u64 x] (I .i64 (Lib.bitLen x.toNat)):=by
 refine zaf ⟨_,Tryz.func122,by kernel_rfl,by kernel_rfl⟩ fun β own w vals hA=>?_
 obtain⟨hl,ha⟩:=hA
 obtain⟨v,rfl⟩:∃ v,vals=[v]:=by
  match vals,hl with
  | [v],_=>exact⟨v,rfl⟩
 have hv:=PR.lit (ha 0 _ v rfl rfl)
 subst hv
 exact⟨_,bits_Len x w h0 h1,fun w' own'=>PR.I _ _⟩
theorem zvk (M:List Int) (hm:M.length≤12):z13 Tryz.prog 106 [.ref (0,1000)] [((0,1000),.row 21 1 (M.map rcc))] [((0,1000),.row 21 1 ((srt M).map rcc))] (.tup []):=by
 refine z1e fun H hH=>?_
 have hH0:=hH ((0,1000),.row 21 1 (M.map rcc)) (by simp)
 have hb:=zcz M.length (by omega) (by omega)
 have hp:=y1r M (Lib.bitLen ((M.length:Int)).toNat) hm
 exact zD35
theorem zi4 {l:List Int} {k:Nat} {x:Int} (h:l[k]? =some x):l.take (k+1)=l.take k++[x]:=by
 rw[List.take_add_one,h];rfl
theorem z8f {α:Type}:∀ (l zs:List α) (k:Nat),(z0j l k zs).take k=l.take k
 | [],[],k=>by simp[Ab.z0j]
 | [],z::zs,k=>by simp[Ab.z0j]
 | x::l,[],k=>by simp[Ab.z0j]
 | x::l,z::zs,0=>by simp
 | x::l,z::zs,k+1=>by
  have:z0j (x::l) (k+1) (z::zs)=x::z0j l k (z::zs):=by simp[Ab.z0j]
  rw[this,List.take_succ_cons,List.take_succ_cons,z8f l (z::zs) k]
theorem za3 {α β:Type} (g:α→β):∀ (l zs:List α) (k:Nat),z0j (l.map g) k (zs.map g)=(z0j l k zs).map g
 | [],[],k=>by simp[Ab.z0j]
 | [],z::zs,k=>by simp[Ab.z0j]
 | x::l,[],k=>by simp[Ab.z0j]
 | x::l,z::zs,0=>by
  have:=za3 g l zs 0
  simp only[List.map_cons] at this ⊢
  simp[Ab.z0j,this]
 | x::l,z::zs,k+1=>by
  have:=za3 g l (z::zs) k
  simp only[List.map_cons] at this ⊢
  simp[Ab.z0j,this]
theorem y5s {l m:List Int} {i:Nat} (h:l.drop i=m.drop i):l.drop (i+1)=m.drop (i+1):=by
 have:=congrArg (List.drop 1) h
 simpa[List.drop_drop] using this
theorem zot (l:List Int) (hl:l.length≤200000000):z13 Tryz.prog 107 [.ref (0,1000)] [((0,1000),.row 21 1 (l.map rcc))] [((0,1000),.gone)] (.d (.slice ((cpt l).map rcc))):=by
 refine z1e fun H hH=>?_
 have hH0:=hH ((0,1000),.row 21 1 (l.map rcc)) (by simp)
 refine z03 Tryz.func107 (by kernel_rfl) rfl (by simp) ?_
 dsimp only[Tryz.f107]
 refine z1o 1000 0 1000 hH0 rfl rfl ?_
 have fin:∀ {n:Nat} {tm:List (Nat × PV)} {hp:Hp} (q:List (List D)),q=(cpt l).map rcc→Ab.look tm 2=some (.d (.slice q))→Ab.look hp 1000=some .gone→True:=fun _ _ _ _=>trivial
 clear fin
 by_cases hs:l.length<2
 · have e1:cpt l=l:=by
    match l,hs with
    | [],_=>rfl
    | [x],_=>rfl
   rw[e1]
   exact zD85
 obtain⟨x0,hx0⟩:∃ x,l[0]? =some x:=⟨_,zA0 (by omega)⟩
 have hstart:cpt l=l.take 1++cq x0 (l.drop 1):=by
  cases l with
  | nil=>simp at hx0
  | cons x l=>simp at hx0;subst hx0;rfl
 repeat' (first|(apply z15;(refine z04 (z0s rfl) rfl rfl ?_))|refine stq ?_|refine fk (fun _=>?_) (fun _=>?_))
 all_goals try (exfalso;omega)
 refine z0a ?_
 refine z00 (z0p (fun q:Nat=>⟨61,[(0,.ref (0,1000)),(3,I .i64 ((q:Nat)+1:Int)),(101000,.al (0,1000) (1,1000))],[(1000,.row 21 1 (l.map rcc))],upd H (0,1000) .gone⟩) (fun q=>q+1≤l.length∧∃ x,l[q]? =some x∧cpt l=l.take (q+1)++cq x (l.drop (q+1))) (fun q=>l.length-q) ?_ 0 ⟨by omega,x0,hx0,hstart⟩) rfl rfl
 rintro k ⟨k1,x,hx,k2⟩ ih
 by_cases hlt:k+1<l.length
 · obtain⟨y,hy⟩:∃ y,l[k+1]? =some y:=⟨_,zA0 hlt⟩
   have hyi:l[((((k:Nat):Int)+1)).toNat]? =some y:=by rw[show (((k:Nat):Int)+1).toNat=k+1 by omega];exact hy
   have hxi:l[((((k:Nat):Int)+1)-1).toNat]? =some x:=by rw[show ((((k:Nat):Int)+1)-1).toNat=k by omega];exact hx
   rw[drop_cons hy,cq] at k2
   by_cases he:x=y
   · rw[zAz he] at k2
     have hsub:((((k:Nat):Int)+1)).toNat=k+1:=by omega
     clear ih
     repeat' (first|(apply z0b;(first|refine z09 (z0x (u:=z0v y) hyi) rfl rfl ?_| refine z09 (z0x (u:=z0v x) hxi) rfl rfl ?_))|(apply z02;(refine z09 (z10 rfl (by simp only[zA4];omega)) rfl rfl ?_))|(apply zju;(refine z04 (zfz rfl (by omega) (by simp only[zA4];omega) rfl) rfl rfl ?_))|(apply z15;(refine z04 (z0s rfl) rfl rfl ?_))|refine stq ?_|refine fk (fun _=>?_) (fun _=>?_))
     all_goals try (exfalso;omega)
     refine z0a ?_
     have hln:(l.map rcc).length-((((k:Nat):Int)+1)).toNat=l.length-(k+1):=by rw[zA4,hsub]
     refine z00 (z0p (fun q:Nat × Nat × List Int=>⟨61,[(0,.ref (0,1000)),(3,I .i64 (q.1:Nat)),(4,.rsub (0,1000) 1 ((((k:Nat):Int)+1)).toNat ((l.map rcc).length-((((k:Nat):Int)+1)).toNat)),(5,I .i64 (q.2.1:Nat)),(101000,.al (0,1000) (1,1000))],[(1000,.row 21 1 (q.2.2.map rcc))],upd H (0,1000) .gone⟩) (fun q=>q.2.2.length=l.length∧k+1≤q.1∧q.1+1≤k+1+q.2.1∧1≤q.2.1∧k+1+q.2.1≤l.length∧q.2.2.drop (k+q.2.1)=l.drop (k+q.2.1)∧∃ z,l[k+q.2.1]? =some z∧cpt l=q.2.2.take q.1++cq z (l.drop (k+1+q.2.1))) (fun q=>l.length-q.2.1) ?_ (k+1,1,l) ⟨rfl,zAj _,by simp only;omega,zAj _,by simp only;omega,rfl,y,hy,k2⟩) rfl rfl
     rintro⟨a,b,r⟩ ⟨r1,r2,r3,r4,r5,r6,z,hz,r7⟩ ih
     simp only at r1 r2 r3 r4 r5 r6 hz r7 ih ⊢
     have hget:∀ i,k+b≤i→r[i]? =l[i]?:=fun i hi=>by
      have:=congrArg (fun m=>m[i-(k+b)]?) r6
      simp only[List.getElem?_drop] at this
      rwa [show k+b+(i-(k+b))=i by omega] at this
     by_cases hlb:k+1+b<l.length
     · obtain⟨u,hu⟩:∃ u,l[k+1+b]? =some u:=⟨_,zA0 hlb⟩
       have hui:r[((((k:Nat):Int)+1)).toNat+((b:Nat):Int).toNat]? =some u:=by rw[hsub,zA9,hget _ (by omega)];exact hu
       have hzi:r[((((k:Nat):Int)+1)).toNat+(((b:Nat):Int)-1).toNat]? =some z:=by rw[hsub,show k+1+(((b:Nat):Int)-1).toNat=k+b by omega,hget _ (by omega)];exact hz
       rw[drop_cons hu,cq] at r7
       have hai:∃ v,r[((a:Nat):Int).toNat]? =some v:=⟨_,zA0 (by omega)⟩
       obtain⟨v,hv⟩:=hai
       by_cases hzu:z=u
       · rw[zAz hzu] at r7
         have ih':=ih (a,b+1,r) ⟨r1,r2,by simp only;omega,by simp only;omega,by simp only;omega,by simp only;rw[← Nat.add_assoc];exact y5s r6,u,by rw[show k+(b+1)=k+1+b by omega];exact hu,by simp only;rw[r7,show k+1+(b+1)=k+1+b+1 by omega]⟩ (by simp only;omega)
         repeat' (first|(apply z1c;(refine z04 (z0x (u:=z0v u) hui) rfl rfl ?_))|(apply z0b;(first|refine z09 (z0x (u:=z0v u) hui) rfl rfl ?_| refine z09 (z0x (u:=z0v z) hzi) rfl rfl ?_))|(apply z01;(refine z04 (z9o rfl (by omega) (by rw[hln];omega) (by rw[hln,hsub,zA4,r1];omega) rfl) rfl rfl ?_))|(apply z02;(refine z09 (z9o rfl (by omega) (by rw[hln];omega) (by rw[hln,hsub,zA4,r1];omega) rfl) rfl rfl ?_))|(apply z15;(refine z04 (zf0 rfl) rfl rfl ?_))|refine stq ?_|refine fk (fun _=>?_) (fun _=>?_))
         all_goals exact zD8
       · rw[zAy hzu] at r7
         have hset:r.set ((a:Nat):Int).toNat u=r.set a u:=by rw[zA9]
         have ih':=ih (a+1,b+1,r.set a u) ⟨by simp[r1],by simp only;omega,by simp only;omega,by simp only;omega,by simp only;omega,by
          simp only
          rw[List.drop_set_of_lt (by omega),← Nat.add_assoc];exact y5s r6,u,by rw[show k+(b+1)=k+1+b by omega];exact hu,by
          simp only
          rw[zi4 (x:=u) (by rw[zAp (by omega)]),List.take_set_of_le (zAj _),r7,show k+1+(b+1)=k+1+b+1 by omega]
          simp⟩ (by simp only;omega)
         repeat' (first|(apply z1c;(refine z04 (z0x (u:=z0v u) hui) rfl rfl ?_))|(apply z0b;(first|refine z09 (z0x (u:=z0v u) hui) rfl rfl ?_| refine z09 (z0x (u:=z0v z) hzi) rfl rfl ?_))|(apply z01;(first|refine z04 (z10 rfl (by simp only[zA4];omega)) rfl rfl ?_| refine z04 (z9o rfl (by omega) (by rw[hln];omega) (by rw[hln,hsub,zA4,r1];omega) rfl) rfl rfl ?_))|(apply z02;(refine z09 (z9o rfl (by omega) (by rw[hln];omega) (by rw[hln,hsub,zA4,r1];omega) rfl) rfl rfl ?_))|(apply z15;(refine z04 (zf0 rfl) rfl rfl ?_))|(apply z0n;(refine z23 u hv hset ?_))|refine stq ?_|refine fk (fun _=>?_) (fun _=>?_))
         all_goals exact zD8
     · have hbe:k+1+b=l.length:=by omega
       rw[List.drop_eq_nil_of_le (by omega),cq,List.append_nil] at r7
       have hspl:z0j (r.map rcc) ((a:Nat):Int).toNat (List.replicate ((r.map rcc).length-((a:Nat):Int).toNat) [.lit (.int .i32 0)])=(z0j r a (List.replicate (r.length-a) 0)).map rcc:=by
        rw[zA9,zA4,show ([.lit (.int .i32 0)]:List D)=rcc 0 from rfl,← List.map_replicate,za3]
       have hres:(z0j r a (List.replicate (r.length-a) 0)).take ((a:Nat):Int).toNat=cpt l:=by
        rw[zA9,z8f,← r7]
       have hlen2:(z0j r a (List.replicate (r.length-a) 0)).length=r.length:=z0t _ _ _
       generalize z0j r a (List.replicate (r.length-a) 0)=r2 at *
       repeat' (first|(apply z0y;((refine y1e (e:=21) (z0:=.int .i32 0) rfl (z1l (by kernel_rfl)) rfl rfl rfl (by simp only[zA4];omega) ?_;rw[hspl];refine zbi 1000 rfl ?_)))|(apply zju;(first|refine z04 (zfz rfl (by omega) (by simp only[zA4];omega) rfl) rfl rfl ?_| refine z04 (z74 (g:=rcc) rfl (by omega) (by omega) (fun _=>rfl)) rfl rfl ?_))|(apply z15;(refine z04 (zf0 rfl) rfl rfl ?_))|refine stq ?_|refine fk (fun _=>?_) (fun _=>?_))
       all_goals try (exfalso;rw[hln] at *;omega)
       all_goals (rw[← hres];exact z05 Tryz.func107 _ z0e ⟨rfl,rfl⟩)
   · rw[zAy he] at k2
     have ih':=ih (k+1) ⟨by omega,y,hy,by rw[zi4 hy,k2];simp⟩ (by omega)
     repeat' (first|(apply z0b;(first|refine z09 (z0x (u:=z0v y) hyi) rfl rfl ?_| refine z09 (z0x (u:=z0v x) hxi) rfl rfl ?_))|(apply z02;(refine z09 (z10 rfl (by simp only[zA4];omega)) rfl rfl ?_))|(apply z15;(refine z04 (z0s rfl) rfl rfl ?_))|refine stq ?_|refine fk (fun _=>?_) (fun _=>?_))
     all_goals exact zD8
 · have hke:k+1=l.length:=by omega
   rw[hke,zAs,cq,List.append_nil,List.take_length] at k2
   rw[k2]
   exact zD85
open Go.Ab Go.Ax Go.Rx
def zb0 (n:Nat):Prop:=∀ M:List Int,M.length≤n→z13 Tryz.prog 106 [.ref (0,1000)] [((0,1000),.row 21 1 (M.map rcc))] [((0,1000),.row 21 1 ((srt M).map rcc))] (.tup [])
theorem zl2:zb0 12:=fun M h=>zvk M h
def ends (r:List Rg):List Int:=r.flatMap fun x=>[x.1,x.2+1]
def z3w (L:List (List Rg)):List Int:=[0,1114112]++L.flatMap ends
def z84 (L:List (List Rg)):List Int:=cpt (srt (z3w L))
theorem zyv {N:Nat} (hS:zb0 N) (L:List (List Rg)) (hN:(z3w L).length≤N) (hN2:N≤200000000) (hr:∀ r∈L,∀ x∈r,0≤x.1∧x.1≤1114111∧0≤x.2∧x.2≤1114111) (hl:L.length≤200000000) (hl2:∀ r∈L,r.length≤200000000) :
 z08 Tryz.prog 61 [.d (lvs L)] (.d (.slice ((z84 L).map rcc))):=by
 refine z0g fun H=>?_
 have hss:=hS (z3w L) hN
 have hcc:=zot (srt (z3w L)) (by rw[zj1];omega)
 refine z03 Tryz.func61 (by kernel_rfl) rfl (by simp) ?_
 dsimp only[Tryz.f61]
 repeat' (first|(apply zfh;(refine zb4 rfl rfl rfl rfl rfl rfl rfl rfl rfl (by decide) ?_))|refine stq ?_|fail)
 refine z18 8 1000 ?_
 refine z0a ?_
 refine z00 (z0p (fun q:Nat × List Int=>⟨35,[(3,.ref (0,1000)),(9,.d (lvs L)),(10,I .i64 L.length),(11,I .i64 (q.1:Nat))],[(1000,.row 21 1 (q.2.map rcc))],H⟩) (fun q=>q.1≤L.length∧q.2++(L.drop q.1).flatMap ends=z3w L) (fun q=>L.length-q.1) ?_ (0,[0,1114112]) ⟨zAf _,rfl⟩) rfl rfl
 rintro⟨i,acc⟩ ⟨i1,i2⟩ ih
 simp only at i1 i2 ih ⊢
 by_cases hlt:i<L.length
 · obtain⟨r,hri⟩:∃ r,L[i]? =some r:=⟨_,zA0 hlt⟩
   have hrm:=zA2 hri
   have hrr:=hr r hrm
   have hrl:=hl2 r hrm
   rw[drop_cons hri,List.flatMap_cons] at i2
   repeat' (first|(apply z01;(refine z04 (z0k (ys:=L.map fun r=>[rgs r]) rfl (idx (g:=fun r=>[rgs r]) hri)) rfl rfl ?_))|refine stq ?_|refine fk (fun _=>?_) (fun _=>?_))
   all_goals try (exfalso;omega)
   refine z0a ?_
   refine z00 (z0p (fun q:Nat × List Int=>⟨35,[(3,.ref (0,1000)),(9,.d (lvs L)),(10,I .i64 L.length),(11,I .i64 (i:Nat)),(15,.d (rgs r)),(16,I .i64 r.length),(17,I .i64 (q.1:Nat))],[(1000,.row 21 1 (q.2.map rcc))],H⟩) (fun q=>q.1≤r.length∧q.2++(ends (r.drop q.1)++(L.drop (i+1)).flatMap ends)=z3w L) (fun q=>r.length-q.1) ?_ (0,acc) ⟨zAf _,i2⟩) rfl rfl
   rintro⟨j,acc2⟩ ⟨j1,j2⟩ ihj
   simp only at j1 j2 ihj ⊢
   by_cases hj:j<r.length
   · obtain⟨x,hx⟩:∃ x,r[j]? =some x:=⟨_,zA0 hj⟩
     obtain⟨x1,x2,x3,x4⟩:=hrr x (zA2 hx)
     have ha2:acc2.length≤N:=by have:=congrArg List.length j2;rw[zAa] at this;omega
     rw[drop_cons hx,ends,List.flatMap_cons,← ends] at j2
     have ihj':=ihj (j+1,acc2++[x.1,x.2+1]) ⟨by simp only;omega,by simp only;rw[← j2];simp⟩ (by simp only;omega)
     repeat' (first|(apply z01;(refine z04 (z0k (ys:=r.map rgc) rfl (idx (g:=rgc) hx)) rfl rfl ?_))|(apply z11;(refine z04 (z16 (z8h (by omega) (by omega))) rfl rfl ?_))|(apply z15;(refine zwz (g:=rcc) (r:=[x.1,x.2+1]) rfl rfl rfl rfl rfl (fun _=>rfl) rfl rfl (by decide) (by simp;omega) ?_))|refine stq ?_|refine fk (fun _=>?_) (fun _=>?_))
     all_goals try (exfalso;omega)
     all_goals refine z18 28 1000 ?_
     all_goals exact z00 ihj' rfl rfl
   · obtain rfl:j=r.length:=by omega
     rw[zAs,ends,List.flatMap_nil,List.nil_append] at j2
     have ih':=ih (i+1,acc2) ⟨by simp only;omega,j2⟩ (by simp only;omega)
     all_goals exact zD28
 · obtain rfl:i=L.length:=by omega
   rw[zAs,List.flatMap_nil,List.append_nil] at i2
   subst i2
   repeat' (first|(apply z06;(first|refine z2p hss rfl rfl (by decide) ?_|refine z2p hcc rfl rfl (by decide) ?_))|refine stq ?_|refine fk (fun _=>?_) (fun _=>?_))
   all_goals try (exfalso;omega)
   all_goals exact z05 Tryz.func61 _ z0e ⟨rfl,rfl⟩
def okP (n m:Nat) (k:Int × Int):Prop:=-1≤k.1∧k.1<n∧-1≤k.2∧k.2<m
abbrev bsP (F G:List Bool) (A C:List (List Arc)) (op:Int):List (Nm × Blk):=[((1,3),BX F A),((1,4),BX G C),((1,5),.box [I .i64 op])]
theorem zzx (F G:List Bool) (A C:List (List Arc)) (op:Int) (k:Int × Int) (hk:okP F.length G.length k):z13 Tryz.prog 94 [pcP k,.ptr (1,5) 0,.ptr (1,3) 0,.ptr (1,4) 0] (bsP F G A C op) [] (B (zam op ((⟨F,A⟩:Au).fin k.1) ((⟨G,C⟩:Au).fin k.2))):=by
 refine z1e fun H hH=>?_
 have h3:H 1 3=some (BX F A):=hH ((1,3),BX F A) (by simp)
 have h4:H 1 4=some (BX G C):=hH ((1,4),BX G C) (by simp)
 have h5:H 1 5=some (.box [I .i64 op]):=hH ((1,5),.box [I .i64 op]) (by simp)
 have hf1:=zho ⟨F,A⟩ k.1 hk.2.1
 have hf2:=zho ⟨G,C⟩ k.2 hk.2.2.2
 have hc:=zpw op ((⟨F,A⟩:Au).fin k.1) ((⟨G,C⟩:Au).fin k.2)
 generalize (⟨F,A⟩:Au).fin k.1=x at *
 generalize (⟨G,C⟩:Au).fin k.2=y at *
 refine z03 Tryz.func94 (by kernel_rfl) rfl (by simp) ?_
 dsimp only[Tryz.f94]
 repeat' (first|(apply z0b;(first|refine z09 (z9x (b:=BX G C) (cs:=auc ⟨G,C⟩) rfl rfl rfl) rfl (bkN h4) ?_| refine z09 (z9x (b:=BX F A) (cs:=auc ⟨F,A⟩) rfl rfl rfl) rfl (bkN h3) ?_| refine z9u (by first|exact rfl|exact⟨_,rfl,rfl,rfl⟩) rfl h5 rfl rfl rfl rfl (by decide) ?_))|(apply z0l;(first|refine z36 hf1 ?_| refine z36 hf2 ?_| refine z36 hc ?_))|(apply z0w;(refine z07 z2b ?_))|refine stq ?_|fail)
 all_goals exact z05 Tryz.func94 _ z0e ⟨rfl,rfl⟩
def prE (op:Int) (l m:List Arc) (pts:List Int) (i:Nat):Option (Go.Ax.Edge (Int × Int)) :=
 if zdk op (nxt l (pts.getD i 0)) (nxt m (pts.getD i 0))=true then none else some (pts.getD i 0,pts.getD (i+1) 0-1,(nxt l (pts.getD i 0),nxt m (pts.getD i 0)))
def z3s (l m:List Arc):List Int:=z84 [z3a l,z3a m]
def z5i (op:Int) (l m:List Arc):List (Go.Ax.Edge (Int × Int)):=(List.range ((z3s l m).length-1)).filterMap (prE op l m (z3s l m))
theorem z4m {α β:Type} (f:α→Option β) (l:List α):(l.filterMap f).length≤l.length:=List.length_filterMap_le f l
theorem zkl (L:List (List Rg)):1≤(z84 L).length:=by
 have h:=(zfe (Go.Ax.zan (z3w L))).2 0
 have:(0:Int)∈z84 L:=by
  rw[z84,h]
  exact(Go.Ax.z7z _).mem_iff.2 (by simp[z3w])
 exact List.length_pos_of_mem this
theorem z97 {L:List (List Rg)} (hr:∀ r∈L,∀ x∈r,0≤x.1∧x.1≤1114111∧0≤x.2∧x.2≤1114111):∀ z∈z84 L,0≤z∧z≤1114112:=fun z hz=>by
 rw[z84,(zfe (Go.Ax.zan (z3w L))).2 z,(Go.Ax.z7z _).mem_iff,z3w,zAt] at hz
 rcases hz with hz|hz
 · simp at hz;omega
 · rw[List.mem_flatMap] at hz
   obtain⟨r,hrr,hz⟩:=hz
   rw[ends,List.mem_flatMap] at hz
   obtain⟨x,hx,hz⟩:=hz
   have:=hr r hrr x hx
   simp at hz;omega
theorem zkb:∀ r:List Rg,(ends r).length=2*r.length
 | []=>rfl
 | x::r=>by rw[ends,List.flatMap_cons,zAa,← ends,zkb r];simp only[zAk,List.length_nil];omega
theorem y0b {N:Nat} (hS:zb0 N) (hN:N≤200000000) (F G:List Bool) (A C:List (List Arc)) (op:Int) (hA:zbn F A) (hC:zbn G C) (k:Int × Int) (hk:okP F.length G.length k)
 (hsz:2+2*((⟨F,A⟩:Au).arcs k.1).length+2*((⟨G,C⟩:Au).arcs k.2).length≤N) :
 z13 Tryz.prog 97 [pcP k,.ptr (1,3) 0,.ptr (1,4) 0,.ptr (1,5) 0] (bsP F G A C op) [] (.d (.slice ((z5i op ((⟨F,A⟩:Au).arcs k.1) ((⟨G,C⟩:Au).arcs k.2)).map ped))):=by
 refine z1e fun H hH=>?_
 have h3:H 1 3=some (BX F A):=hH ((1,3),BX F A) (by simp)
 have h4:H 1 4=some (BX G C):=hH ((1,4),BX G C) (by simp)
 have h5:H 1 5=some (.box [I .i64 op]):=hH ((1,5),.box [I .i64 op]) (by simp)
 have hf1:=zll ⟨F,A⟩ k.1 (by have:=hA.len;have:=hk.2.1;simp only;omega)
 have hf2:=zll ⟨G,C⟩ k.2 (by have:=hC.len;have:=hk.2.2.2;simp only;omega)
 have arcP:∀ {F:List Bool} {A:List (List Arc)},zbn F A→∀ q:Int,okA none ((⟨F,A⟩:Au).arcs q)∧((⟨F,A⟩:Au).arcs q).length≤2000000∧∀ x∈(⟨F,A⟩:Au).arcs q,0≤x.1∧x.1≤x.2.1∧x.2.1≤1114111:=fun {F A} hA q=>by
  rw[Au.arcs]
  split
  · exact⟨trivial,by simp,by simp⟩
  · cases hq:A[q.toNat]? with
    | none=>rw[List.getD,hq];exact⟨trivial,by simp,by simp⟩
    | some l =>
     rw[List.getD,hq]
     obtain⟨a1,a2,a3⟩:=hA.arc l (zA2 hq)
     exact⟨a1,a2,fun x hx=>by have:=a3 x hx;omega⟩
 obtain⟨l0,l1,l2⟩:=arcP hA k.1
 obtain⟨m0,m1,m2⟩:=arcP hC k.2
 generalize (⟨F,A⟩:Au).arcs k.1=l at *
 generalize (⟨G,C⟩:Au).arcs k.2=m at *
 have hr1:=zdr l l1
 have hr2:=zdr m m1
 have hrr:∀ r∈[z3a l,z3a m],∀ x∈r,0≤x.1∧x.1≤1114111∧0≤x.2∧x.2≤1114111:=fun r hr x hx=>by
  simp only[zAc,List.not_mem_nil,or_false] at hr
  rcases hr with rfl|rfl
  · simp only[z3a,List.mem_map] at hx;obtain⟨y,hy,rfl⟩:=hx;have:=l2 y hy;simp only;omega
  · simp only[z3a,List.mem_map] at hx;obtain⟨y,hy,rfl⟩:=hx;have:=m2 y hy;simp only;omega
 have hll:(z3a l).length=l.length:=by simp[z3a]
 have hml:(z3a m).length=m.length:=by simp[z3a]
 have hel:(z3w [z3a l,z3a m]).length=2+2*l.length+2*m.length:=by
  simp[z3w,zkb,hll,hml];omega
 have hcuts:=zyv hS [z3a l,z3a m] (by omega) hN hrr (by simp) (fun r hr=>by simp only[zAc,List.not_mem_nil,or_false] at hr;rcases hr with rfl|rfl <;> omega)
 have hpr:=z97 hrr
 have hpl:=zkl [z3a l,z3a m]
 have hpl2:(z84 [z3a l,z3a m]).length≤200000000:=by have:=zrt (Go.Ax.srt (z3w [z3a l,z3a m]));rw[Go.Ax.zj1,hel] at this;rw[z84];omega
 have hst1:=fun c:Int=>zqi l (by omega) l0 c
 have hst2:=fun c:Int=>zqi m (by omega) m0 c
 have hus:=zsd op
 have hEq:z5i op l m=(List.range ((z3s l m).length-1)).filterMap (prE op l m (z3s l m)):=rfl
 rw[hEq]
 change z08 Tryz.prog 61 [.d (lvs [z3a l,z3a m])] (.d (.slice ((z3s l m).map rcc))) at hcuts
 change ∀ z∈z3s l m,0≤z∧z≤1114112 at hpr
 change 1≤(z3s l m).length at hpl
 change (z3s l m).length≤200000000 at hpl2
 generalize z3s l m=pts at *
 clear hEq
 refine z03 Tryz.func97 (by kernel_rfl) rfl (by simp) ?_
 dsimp only[Tryz.f97]
 repeat' (first|(apply z0b;(first|refine z09 (z9x (b:=BX G C) (cs:=auc ⟨G,C⟩) rfl rfl rfl) rfl (bkN h4) ?_| refine z09 (z9x (b:=BX F A) (cs:=auc ⟨F,A⟩) rfl rfl rfl) rfl (bkN h3) ?_))|(apply z06;(first|refine z1i hr1 ?_| refine z1i hr2 ?_| refine z1i hcuts ?_))|(apply z0l;(first|refine z36 hf1 ?_| refine z36 hf2 ?_))|(apply z0w;(refine z07 z2b ?_))|refine stq ?_|fail)
 all_goals try (exfalso;omega)
 refine z1m 9 1001 146 4 rfl rfl rfl ?_
 refine z0a ?_
 refine z00 (z0p (fun q:Nat=>⟨66,[(3,.ptr (2,5) 0),(6,.d (z7t l)),(7,.d (z7t m)),(8,.d (.slice (pts.map rcc))),(9,.ref (0,1001)),(28,I .i64 ((pts.length:Int)-1)),(29,I .i64 (q:Nat))],[(1001,.row 146 4 (((List.range q).filterMap (prE op l m pts)).map ped))],H⟩) (fun q=>q≤pts.length-1) (fun q=>pts.length-1-q) ?_ 0 (zAf _)) rfl rfl
 intro i hi ih
 by_cases hlt:i<pts.length-1
 · obtain⟨x,hx⟩:∃ x,pts[i]? =some x:=⟨_,zA0 (by omega)⟩
   obtain⟨y,hy⟩:∃ y,pts[i+1]? =some y:=⟨_,zA0 (by omega)⟩
   have hyi:pts[(((i:Nat):Int)+1).toNat]? =some y:=by rw[show (((i:Nat):Int)+1).toNat=i+1 by omega];exact hy
   have hxr:=hpr x (zA2 hx)
   have hyr:=hpr y (zA2 hy)
   have hs1:=hst1 x
   have hs2:=hst2 x
   have hu:=hus (nxt l x) (nxt m x)
   have hfl:=z4m (prE op l m pts) (List.range i)
   rw[List.length_range] at hfl
   have ih':=ih (i+1) (by omega) (by omega)
   have hstep:(List.range (i+1)).filterMap (prE op l m pts)=(List.range i).filterMap (prE op l m pts)++(prE op l m pts i).toList:=by
    rw[List.range_succ,List.filterMap_append];simp[List.filterMap_cons];cases prE op l m pts i <;> rfl
   rw[hstep,prE,z1n hx,z1n hy] at ih'
   clear ih hstep
   generalize (List.range i).filterMap (prE op l m pts)=out at *
   generalize nxt l x=p1 at *
   generalize nxt m x=p2 at *
   by_cases hul:zdk op p1 p2=true
   · rw[zAz hul,Option.toList_none,List.append_nil] at ih'
     rw[hul] at hu
     repeat' (first|(apply z1c;(refine z2m rfl h5 rfl rfl rfl rfl (by decide) ?_))|(apply z02;(refine z09 (z0k (ys:=pts.map rcc) rfl (idx (g:=rcc) hx)) rfl rfl ?_))|(apply z06;(refine z1i hu ?_))|(apply z0l;(first|refine z36 hs1 ?_| refine z36 hs2 ?_))|refine stq ?_|refine fk (fun _=>?_) (fun _=>?_))
     all_goals exact zD18
   · rw[zAy hul,Option.toList_some] at ih'
     rw[Bool.not_eq_true] at hul
     rw[hul] at hu
     repeat' (first|(apply z1c;(refine z2m rfl h5 rfl rfl rfl rfl (by decide) ?_))|(apply z02;(first|refine z09 (z0k (ys:=pts.map rcc) rfl (idx (g:=rcc) hx)) rfl rfl ?_| refine z09 (z0k (ys:=pts.map rcc) rfl (z4k (g:=rcc) hyi)) rfl rfl ?_))|(apply z0z;(refine z09 (z1j (z8h (by omega) (by omega))) rfl rfl ?_))|(apply z43;(refine z55 (g:=ped) (by first|exact rfl|exact⟨_,rfl,rfl,rfl⟩) rfl rfl ((x,y-1,(p1,p2)):Go.Ax.Edge (Int × Int)) rfl rfl rfl rfl rfl rfl rfl (by decide) (by omega) ?_))|(apply z06;(refine z1i hu ?_))|(apply z0l;(first|refine z36 hs1 ?_| refine z36 hs2 ?_))|refine stq ?_|refine fk (fun _=>?_) (fun _=>?_))
     all_goals try (exfalso;first|omega|(simp at *;done))
     all_goals refine z18 63 1001 ?_
     all_goals exact z00 ih' rfl rfl
 · obtain rfl:i=pts.length-1:=by omega
   clear ih
   repeat' (first|refine stq ?_|refine fk (fun _=>?_) (fun _=>?_))
   all_goals try (exfalso;omega)
   all_goals refine z0o 1001 rfl ?_
   all_goals exact z05 Tryz.func97 _ z0e ⟨rfl,rfl⟩
theorem zlt {F:List Bool} {A:List (List Arc)} (hA:zbn F A) (q:Int):okA none ((⟨F,A⟩:Au).arcs q)∧∀ x∈(⟨F,A⟩:Au).arcs q,0≤x.1∧x.1≤x.2.1∧x.2.1≤1114111∧0≤x.2.2∧x.2.2<F.length:=by
 rw[Au.arcs]
 split
 · exact⟨trivial,by simp⟩
 · cases hq:A[q.toNat]? with
   | none=>rw[List.getD,hq];exact⟨trivial,by simp⟩
   | some l =>
    rw[List.getD,hq]
    obtain⟨a1,a2,a3⟩:=hA.arc l (zA2 hq)
    exact⟨a1,a3⟩
theorem zmx {F:List Bool} {A:List (List Arc)} {a:Nat} (h:∀ l∈A,l.length≤a) (q:Int):((⟨F,A⟩:Au).arcs q).length≤a:=by
 rw[Au.arcs]
 split
 · simp
 · cases hq:A[q.toNat]? with
   | none=>rw[List.getD,hq];simp
   | some l=>rw[List.getD,hq];exact h l (zA2 hq)
theorem zt7 {l:List Arc} {n:Nat} (h0:okA none l) (h:∀ x∈l,0≤x.2.2∧x.2.2<n) (c:Int):-1≤nxt l c∧nxt l c<n:=by
 refine⟨zkw (p:=none) h0 c,?_⟩
 by_cases e:nxt l c=-1
 · rw[e];omega
 · obtain⟨y,hy,e2⟩:=zhd e
   have:=h y hy;omega
theorem zp8 {l m:List Arc} (hl:∀ x∈l,0≤x.1∧x.1≤x.2.1∧x.2.1≤1114111) (hm:∀ x∈m,0≤x.1∧x.1≤x.2.1∧x.2.1≤1114111):∀ r∈[z3a l,z3a m],∀ x∈r,0≤x.1∧x.1≤1114111∧0≤x.2∧x.2≤1114111:=fun r hr x hx=>by
 simp only[zAc,List.not_mem_nil,or_false] at hr
 rcases hr with rfl|rfl
 · simp only[z3a,List.mem_map] at hx;obtain⟨y,hy,rfl⟩:=hx;have:=hl y hy;simp only;omega
 · simp only[z3a,List.mem_map] at hx;obtain⟨y,hy,rfl⟩:=hx;have:=hm y hy;simp only;omega
theorem zr5 (L:List (List Rg)):(z84 L).Pairwise (· <·):=(zfe (Go.Ax.zan (z3w L))).1
theorem zha {op:Int} {l m:List Arc} {e:Go.Ax.Edge (Int × Int)} (h:e∈z5i op l m):∃ i x y,(z3s l m)[i]? =some x∧(z3s l m)[i+1]? =some y∧e=(x,y-1,(nxt l x,nxt m x))∧zdk op (nxt l x) (nxt m x)=false:=by
 rw[z5i,List.mem_filterMap] at h
 obtain⟨i,hi,he⟩:=h
 rw[List.mem_range] at hi
 obtain⟨x,hx⟩:∃ x,(z3s l m)[i]? =some x:=⟨_,zA0 (by omega)⟩
 obtain⟨y,hy⟩:∃ y,(z3s l m)[i+1]? =some y:=⟨_,zA0 (by omega)⟩
 rw[prE,z1n hx,z1n hy] at he
 split at he
 · cases he
 · rename_i hu
   simp only[zAh] at he
   exact⟨i,x,y,hx,hy,he.symm,by simpa using hu⟩
theorem zvp {op:Int} {F G:List Bool} {A C:List (List Arc)} (hA:zbn F A) (hC:zbn G C) (k:Int × Int):edE (z5i op ((⟨F,A⟩:Au).arcs k.1) ((⟨G,C⟩:Au).arcs k.2))∧∀ e∈z5i op ((⟨F,A⟩:Au).arcs k.1) ((⟨G,C⟩:Au).arcs k.2),okP F.length G.length e.2.2:=by
 obtain⟨l0,l1⟩:=zlt hA k.1
 obtain⟨m0,m1⟩:=zlt hC k.2
 generalize (⟨F,A⟩:Au).arcs k.1=l at *
 generalize (⟨G,C⟩:Au).arcs k.2=m at *
 have hr:=z97 (zp8 (fun x hx=>by have:=l1 x hx;omega) (fun x hx=>by have:=m1 x hx;omega))
 have hlt:=zr5 [z3a l,z3a m]
 have hlen:=zj5 (B:=1114112) hlt (fun z hz=>by have:=hr z hz;omega)
 refine⟨⟨?_,fun e he=>?_⟩,fun e he=>?_⟩
 · have:=z4m (prE op l m (z3s l m)) (List.range ((z3s l m).length-1))
   rw[List.length_range] at this
   rw[z5i];rw[z3s] at *;omega
 · obtain⟨i,x,y,hx,hy,rfl,_⟩:=zha he
   exact zD59
 · obtain⟨i,x,y,hx,hy,rfl,_⟩:=zha he
   have h1:=zt7 (n:=F.length) l0 (fun z hz=>by have:=l1 z hz;omega) x
   have h2:=zt7 (n:=G.length) m0 (fun z hz=>by have:=m1 z hz;omega) x
   exact⟨h1.1,h1.2,h2.1,h2.2⟩
def zf8 (F G:List Bool) (A C:List (List Arc)) (op:Int):Option Au:=exL (fun k=>zam op ((⟨F,A⟩:Au).fin k.1) ((⟨G,C⟩:Au).fin k.2)) (fun k=>z5i op ((⟨F,A⟩:Au).arcs k.1) ((⟨G,C⟩:Au).arcs k.2)) 1048576 1048577 0 [(0,0)] ⟨[],[]⟩
theorem zg5 {N a c:Nat} (hS:zb0 N) (hN:N≤200000000) (F G:List Bool) (A C:List (List Arc)) (op:Int) (hA:zbn F A) (hC:zbn G C) (ha:∀ l∈A,l.length≤a) (hc:∀ l∈C,l.length≤c) (hac:2+2*a+2*c≤N) :
 z08 Tryz.prog 49 [.d (auD ⟨F,A⟩),.d (auD ⟨G,C⟩),I .i64 op] (exR (zf8 F G A C op)):=by
 refine z0g fun H=>?_
 have hex:z13 Tryz.prog 101 [pcP (0,0),.fn (.func 94) [] [.ptr (0,5) 0,.ptr (0,3) 0,.ptr (0,4) 0],.fn (.func 97) [] [.ptr (0,3) 0,.ptr (0,4) 0,.ptr (0,5) 0],I .i64 1048576] [((0,3),BX F A),((0,4),BX G C),((0,5),.box [I .i64 op])] [] (exR (zf8 F G A C op)):=z1e fun H hH =>
  zmz (BX F A) (BX G C) (.box [I .i64 op]) (okP F.length G.length) (fun k=>zam op ((⟨F,A⟩:Au).fin k.1) ((⟨G,C⟩:Au).fin k.2)) (fun k=>z5i op ((⟨F,A⟩:Au).arcs k.1) ((⟨G,C⟩:Au).arcs k.2)) (0,0) 1048576 (by decide) (by decide) ⟨by decide,by have:=hA.pos;simp only;omega,by decide,by have:=hC.pos;simp only;omega⟩
   (fun k hk=>zzx F G A C op k hk) (fun k hk=>y0b hS hN F G A C op hA hC k hk (by have:=zmx (F:=F) ha k.1;have:=zmx (F:=G) hc k.2;omega)) (fun k hk=>zvp hA hC k) H (hH ((0,3),BX F A) (by simp)) (hH ((0,4),BX G C) (by simp)) (hH ((0,5),.box [I .i64 op]) (by simp))
 generalize zf8 F G A C op=o at *
 cases o with
 | some x =>
  exact zD54
 | none =>
  exact zD54
def y03 (o:Option Au):PV:=match o with
 | some a=>.tup [.d (auD a),I .i64 0]
 | none=>.tup [.d (auD ⟨[],[]⟩),I .i64 2]
noncomputable def y8m (a b:Au) (op:Int):Option Au:=(zf8 a.F b.F a.A b.A op).bind fun x=>zog x.F x.A 256
theorem y74 {N n m:Nat} (hS:zb0 N) (hN:N≤200000000) (a b:Au) (op:Int) (hfa:z57 a) (hfb:z57 b) (ha:vAu a=0) (hb:vAu b=0) (h1:1≤op) (h4:op≤4) (hA:zbn a.F a.A) (hB:zbn b.F b.A) (hn:∀ l∈a.A,l.length≤n) (hm:∀ l∈b.A,l.length≤m) (hnm:2+2*n+2*m≤N)
 (hX:∀ x,zf8 a.F b.F a.A b.A op=some x→zbn x.F x.A):z08 Tryz.prog 24 [.d (auD a),.d (auD b),I .i64 op] (y03 (y8m a b op)):=by
 refine z0g fun H=>?_
 have hva:=z4c a hfa
 have hvb:=z4c b hfb
 rw[ha] at hva
 rw[hb] at hvb
 have hp:=zg5 hS hN a.F b.F a.A b.A op hA hB hn hm hnm
 rw[y8m]
 obtain⟨F,A⟩:=a
 obtain⟨G,C⟩:=b
 simp only at hp hX ⊢
 generalize zf8 F G A C op=o at *
 cases o with
 | none =>
  simp only[exR] at hp
  simp only[Option.bind_none,y03]
  refine z03 Tryz.func24 (by kernel_rfl) rfl (by simp) ?_
  dsimp only[Tryz.f24]
  repeat' (first|(apply z06;(first|refine z1i hva ?_| refine z1i hvb ?_| refine z1i hp ?_))|(apply z0w;(refine z07 z2b ?_))|refine stq ?_|refine fk (fun _=>?_) (fun _=>?_))
  all_goals try (exfalso;first|omega|(simp at *;done)|(simp at *;omega))
  all_goals exact z05 Tryz.func24 _ (z0i rfl rfl rfl rfl rfl rfl rfl) ⟨rfl,rfl⟩
 | some x =>
  obtain⟨xF,xA⟩:=x
  have hmi:=zhi _ _ (hX _ rfl) 256 (by decide) (by decide)
  simp only at hmi
  simp only[exR] at hp
  simp only[Option.bind_some]
  generalize zog xF xA 256=o2 at *
  cases o2 with
  | none =>
   exact zD36
  | some y =>
   exact zD36
def zxy:Au:=⟨[true],[[(0,1114111,0)]]⟩
theorem y0g (a:Au) {p:PV} (hp:∃ (b:Au) (e:Int),p=.tup [.d (auD b),I .i64 e]) (h:z08 Tryz.prog 24 [.d (auD zxy),.d (auD a),I .i64 3] p):z08 Tryz.prog 26 [.d (auD a)] p:=by
 refine z0g fun H=>?_
 obtain⟨⟨G,C⟩,e,rfl⟩:=hp
 obtain⟨F,A⟩:=a
 refine z03 Tryz.func26 (by kernel_rfl) rfl (by simp) ?_
 dsimp only[Tryz.f26]
 repeat' (first|(apply z06;(refine z1i h ?_))|(apply z0w;(refine z07 z2b ?_))|refine stq ?_|fail)
 all_goals exact z05 Tryz.func26 _ (z0i rfl rfl rfl rfl rfl rfl rfl) ⟨rfl,rfl⟩
end Go.Proofs.YthdfkabdoidjfaaGreatDoor
