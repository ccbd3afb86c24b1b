/- A part of the proof: Shb to A29. -/
import Derived.Shelf.Small.Bits
import Derived.Test.YthdfkabdoidjfaaGreatDoorProg
import Derived.Test.YthdfkabdoidjfaaGreatDoorV1
import Derived.Test.YthdfkabdoidjfaaGreatDoorVy
import Derived.Test.YthdfkabdoidjfaaGreatDoorVs
import Derived.Test.YthdfkabdoidjfaaGreatDoorVc
import Derived.ArgAppend
import Derived.Test.YthdfkabdoidjfaaGreatDoorVq
import Derived.Test.YthdfkabdoidjfaaGreatDoorV3
import Derived.Test.YthdfkabdoidjfaaGreatDoorVr
import Derived.Test.YthdfkabdoidjfaaGreatDoorVz
import Derived.Test.YthdfkabdoidjfaaGreatDoorVx
set_option linter.all false
namespace Go.Proofs.YthdfkabdoidjfaaGreatDoor
open Go.Proofs
open Go.Shelf
def zkn:Go.Shelf.Ren:=⟨fun|125=>122|128=>136|129=>137|n=>n,fun|46=>163|3=>3|51=>192|53=>76|4=>4|5=>5|9=>9|n=>n,fun|n=>n⟩
theorem zy0:Go.Proofs.Lays.n125 Tryz.prog zkn:={
 mixed:=by kernel_rfl
 f125:=Tryz.func122.trans (congrArg some (by kernel_rfl))
 f128:=Tryz.func136.trans (congrArg some (by kernel_rfl))
 f129:=Tryz.func137.trans (congrArg some (by kernel_rfl))
 t3:=Tryz.underlying3
 a3:=Tryz.isAgg3
 z3:=Tryz.sizeOf3
 v3:=Tryz.zeroValue3
 t4:=Tryz.underlying4
 a4:=Tryz.isAgg4
 z4:=Tryz.sizeOf4
 v4:=Tryz.zeroValue4
 t5:=Tryz.underlying5
 a5:=Tryz.isAgg5
 z5:=Tryz.sizeOf5
 v5:=Tryz.zeroValue5
 t9:=Tryz.underlying9
 a9:=Tryz.isAgg9
 z9:=Tryz.sizeOf9
 v9:=Tryz.zeroValue9
 t46:=Tryz.underlying163
 a46:=Tryz.isAgg163
 z46:=Tryz.sizeOf163
 v46:=Tryz.zeroValue163
 t51:=Tryz.underlying192
 a51:=Tryz.isAgg192
 z51:=Tryz.sizeOf192
 v51:=Tryz.zeroValue192
 t53:=Tryz.underlying76
 a53:=Tryz.isAgg76
 z53:=Tryz.sizeOf76
 v53:=Tryz.zeroValue76 }
theorem bits_Len (x:Int) (w:World) (h0:0≤x) (h1:x≤18446744073709551615) :
 Calls Tryz.prog 122 #[.int .u64 x] w fun e w'=>e=.returned (.int .i64 (Lib.bitLen x.toNat))∧w'=w:=Any.bits_Len zy0 x w h0 h1
end Go.Proofs.YthdfkabdoidjfaaGreatDoor
namespace Go.Proofs.YthdfkabdoidjfaaGreatDoor
open Go.Ab Go.Ax
set_option maxHeartbeats 20000000
set_option maxRecDepth 100000
attribute [local irreducible] Run Ops Op1 z2a Val Tr z0y z1x NF Rel z3i z3g
abbrev rcc (x:Int):List D:=[z2j x]
theorem z2i (a b:Int):z0y Tryz.prog 133 [I .i32 a,I .i32 b] (B (decide (a<b))):=by
 refine z1r fun H=>?_
 have h1:=zfj a
 have h2:=zfj b
 refine z0k Tryz.func133 (by kernel_rfl) rfl (by simp) ?_
 dsimp only[Tryz.f133]
 repeat' (first|(apply z07;(first|refine z0r ?_| (apply z0s;(refine z1w h1 ?_))))|(apply z08;(first|refine z0p ?_|apply z09|refine z1v ?_))|(apply z05;(first|apply z06|apply z00)))
 all_goals try (exfalso;omega)
 all_goals exact z0n Tryz.func133 _ z19 ⟨rfl,rfl⟩
theorem zjp {l A B:List Int} {y:Int} {i:Nat} (h:l=A++y::B) (hi:i=A.length):l[i]? =some y:=by subst h hi;simp
theorem zrb {l A B:List Int} {y z:Int} {i:Nat} (h:l=A++y::B) (hi:i=A.length):l.set i z=A++z::B:=by subst h hi;simp
theorem zls (P M T:List Int) (a b:Int) (ha:a=P.length) (hb:b=P.length+M.length) (hlen:P.length+M.length≤200000000) :
 z1x Tryz.prog 127 [.ref (0,1000),I .i64 a,I .i64 b] [((0,1000),.row 21 1 ((P++(M++T)).map rcc))] [((0,1000),.row 21 1 ((P++(srt M++T)).map rcc))] (.tup []):=by
 refine z2f fun H hH=>?_
 have hH0:=hH ((0,1000),.row 21 1 ((P++(M++T)).map rcc)) (by simp)
 refine z0k Tryz.func127 (by kernel_rfl) rfl (by simp) ?_
 dsimp only[Tryz.f127]
 refine z2l 1000 0 1000 hH0 rfl rfl ?_
 repeat' (first|(apply z07;(first|refine z0r ?_| (apply z0t;(refine z02 (z0u z0x) rfl rfl ?_))))|(apply z08;(first|refine z0p ?_|apply z09))|(apply z05;(first|apply z06|apply z00|apply z01)))
 all_goals try (exfalso;omega)
 refine z1f ?_
 rw[show P++(M++T)=P++(M.take 1++(M.drop 1++T)) by cases M <;> rfl]
 refine z0d (z25 (fun q:Int × List Int × List Int=>⟨49,[(0,.ref (0,1000)),(1,I .i64 a),(2,I .i64 b),(6,I .i64 q.1),(101000,.al (0,1000) (1,1000))],[(1000,.row 21 1 ((P++(q.2.1++(q.2.2++T))).map rcc))],upd H (0,1000) .gone⟩) (fun q=>(q.2.1++q.2.2).Perm M∧q.2.1.Pairwise (· ≤·)∧((M=[]∧q.1=a+1)∨(0<q.2.1.length∧q.1=a+q.2.1.length))) (fun q=>q.2.2.length) ?_ (a+1,M.take 1,M.drop 1) ⟨by rw[List.take_append_drop],by cases M <;> simp,by cases M with
  | nil=>exact .inl ⟨rfl,rfl⟩
  | cons x M=>exact .inr ⟨by simp,by simp⟩⟩) rfl rfl
 rintro⟨i,A,R⟩ ⟨hp,hasc,hi⟩ ih
 simp only at hp hasc hi ih ⊢
 have hlA:=hp.length_eq
 simp only[zAa] at hlA
 cases R with
 | nil =>
  simp only[List.length_nil] at hlA
  rw[List.append_nil] at hp
  have hib:¬ i<b:=by
   rcases hi with ⟨h0,h⟩|⟨h,h'⟩
   · have:=congrArg List.length h0
     simp only[List.length_nil] at this;omega
   · omega
  rw[zx2 hp.symm hasc]
  repeat' (first|(apply z07;(refine z0r ?_))|(apply z08;(first|refine z0p ?_|apply z09))|(apply z05;(first|apply z06|apply z00|apply z04|apply z01|refine z0f (fun _=>?_) (fun _=>?_)| refine z0l ?_)))
  all_goals try (exfalso;omega)
  refine z3t (raw:=.row 21 1 ((P++(A++([]++T))).map rcc)) 1000 0 1000 ?_
  refine ze0 Tryz.func127 _ (z3d rfl) ⟨rfl,?_⟩
  simp[z6s,z3a]
 | cons y R =>
  have hi2:i=a+A.length:=by
   rcases hi with ⟨rfl,h⟩|⟨h,h'⟩
   · simp at hlA
   · exact h'
  have hA0:0<A.length:=by
   rcases hi with ⟨rfl,h⟩|⟨h,h'⟩
   · simp at hlA
   · exact h
  simp only[zAk] at hlA
  repeat' (first|(apply z07;(refine z0r ?_))|(apply z08;(first|refine z0p ?_|apply z09))|(apply z05;(first|apply z06|apply z00|apply z04|apply z01|refine z0f (fun _=>?_) (fun _=>?_)| refine z0l ?_)))
  all_goals try (exfalso;omega)
  refine z1f ?_
  rw[show P++(A++(y::R++T))=P++(A++(y::([]++(R++T)))) by simp]
  refine z0d (z25 (fun q:Int × List Int × List Int=>⟨49,[(0,.ref (0,1000)),(1,I .i64 a),(2,I .i64 b),(6,I .i64 i),(7,I .i64 q.1),(101000,.al (0,1000) (1,1000))],[(1000,.row 21 1 ((P++(q.2.1++(y::(q.2.2++(R++T))))).map rcc))],upd H (0,1000) .gone⟩) (fun q=>q.2.1++q.2.2=A∧q.1=a+q.2.1.length∧∀ s∈q.2.2,y≤s) (fun q=>q.2.1.length) ?_ (i,A,[]) ⟨by simp,by simp only;omega,by simp⟩) rfl rfl
  rintro⟨j,S1,S2⟩ ⟨hS,hj,hS2⟩ ih2
  simp only at hS hj hS2 ih2 ⊢
  have hlS:=congrArg List.length hS
  simp only[zAa] at hlS
  have done:(∀ z∈S1,z≤y)→((S1++y::S2)++R).Perm M∧(S1++y::S2).Pairwise (· ≤·):=fun h=>by
   refine⟨.trans ?_ hp,y2n (by rw[hS];exact hasc) h hS2⟩
   rw[← hS]
   have:(S1++y::S2).Perm (S1++S2++[y]):=by
    rw[zAl]
    exact List.Perm.append_left S1 (List.perm_append_singleton y S2).symm
   refine(this.append_right R).trans ?_
   simp
  rcases Go.Ab.zd7 S1 with rfl|⟨S1,s,rfl⟩
  · have hja:¬ j>a:=by simp at hj;omega
    obtain⟨d1,d2⟩:=done (by simp)
    have ih':=ih (i+1,[]++y::S2,R) ⟨d1,d2,.inr ⟨by simp,by simp only[zAa,zAk,List.length_nil] at *;omega⟩⟩ (by simp)
    simp only[zAl,List.cons_append] at ih'
    repeat' (first|(apply z07;(first|refine z0r ?_| (apply z0t;(refine z02 (z0u z0x) rfl rfl ?_))))|(apply z08;(first|refine z0p ?_|apply z09))|(apply z05;(first|apply z06|apply z00|refine z0w ?_| apply z2b|apply z03|refine z0l ?_))|(apply z2c;(first|(apply z0v;refine z1h mix ?_)|refine z27 ?_| refine z2e ?_| (refine z2k (fun hg=>?_) (fun hg=>?_)<;> simp only[hg] <;> (try simp only[zA3,zA5,zA6,zA8] at hg)))))
    all_goals try (exfalso;omega)
    exact z0d ih' rfl rfl
  · simp only[zAa,zAk,List.length_nil] at hj hlS
    have e0:P++(S1++[s]++(y::(S2++(R++T))))=(P++(S1++[s]))++y::(S2++(R++T)):=by simp
    have e1:P++(S1++[s]++(y::(S2++(R++T))))=(P++S1)++s::(y::(S2++(R++T))):=by simp
    have hy:(P++(S1++[s]++(y::(S2++(R++T)))))[j.toNat]? =some y:=zjp e0 (by simp;omega)
    have hs:(P++(S1++[s]++(y::(S2++(R++T)))))[(j-1).toNat]? =some s:=zjp e1 (by simp;omega)
    have hs1:(P++(S1++[s]++(y::(S2++(R++T))))).set j.toNat s=(P++S1)++s::(s::(S2++(R++T))):=(zrb e0 (by simp;omega)).trans (by simp)
    have hz:((P++S1)++s::(s::(S2++(R++T))))[(j-1).toNat]? =some s:=zjp rfl (by simp;omega)
    have hs2:((P++S1)++s::(s::(S2++(R++T)))).set (j-1).toNat y=P++(S1++(y::(s::S2++(R++T)))):=(zrb rfl (by simp;omega)).trans (by simp)
    have hc:=z2i y s
    by_cases hsy:y<s
    · rw[zAi hsy] at hc
      have ih':=ih2 (j-1,S1,s::S2) ⟨by rw[← hS];simp,by simp only;omega,fun z hz=>by
       rw[zAc] at hz
       rcases hz with rfl|hz
       · omega
       · exact hS2 z hz⟩ (by simp)
      repeat' (first|(apply z07;(first|refine z0r ?_| (apply z0t;(first|refine z02 (z0u z0x) rfl rfl ?_| refine z02 (z1g z0x) rfl rfl ?_))))|(apply z08;(first|refine z0p ?_|apply z09))|(apply z05;(first|apply z06|apply z00|refine z1c ?_| refine z0w ?_| apply z04|apply z01|apply z2b|apply z03|refine z0l ?_))|(apply z2c;(first|(apply z0v;refine z1h mix ?_)|refine z27 ?_| refine z2e ?_| (apply z0j;(first|refine z0h (z13 (u:=z2j y) hy) rfl rfl ?_| refine z0h (z13 (u:=z2j s) hs) rfl rfl ?_))|(apply z0o;(refine z0h (z2m rfl (by simp;omega)) rfl rfl ?_))|(apply z1m;(refine z0h (z1g z0x) rfl rfl ?_))|(apply z1j;(refine z4s hc ?_))|(apply z1q;(first|refine z15 s (by first|exact rfl|exact⟨_,rfl,rfl,rfl⟩) rfl rfl rfl rfl hy rfl rfl rfl hs1 ?_|refine z15 y (by first|exact rfl|exact⟨_,rfl,rfl,rfl⟩) rfl rfl rfl rfl hz rfl rfl rfl hs2 ?_))|(refine z2k (fun hg=>?_) (fun hg=>?_)<;> simp only[hg] <;> (try simp only[zA3,zA5,zA6,zA8] at hg)))))
      all_goals try (exfalso;omega)
      exact z0d ih' rfl rfl
    · rw[zAo hsy] at hc
      obtain⟨d1,d2⟩:=done (fun z hz=>by
       have h1:(S1++[s]).Pairwise (· ≤·):=by rw[← hS,List.pairwise_append] at hasc;exact hasc.1
       have:=zur h1 z hz
       omega)
      have ih':=ih (i+1,(S1++[s])++y::S2,R) ⟨d1,d2,.inr ⟨by simp only[zAa,zAk];omega,by simp only[zAa,zAk,List.length_nil] at *;omega⟩⟩ (by simp)
      simp only at ih'
      rw[show P++(S1++[s]++y::S2++(R++T))=P++(S1++[s]++(y::(S2++(R++T)))) by simp] at ih'
      repeat' (first|(apply z07;(first|refine z0r ?_| (apply z0t;(refine z02 (z0u z0x) rfl rfl ?_))))|(apply z08;(first|refine z0p ?_|apply z09))|(apply z05;(first|apply z06|apply z00|refine z0w ?_| apply z2b|apply z03|refine z0l ?_))|(apply z2c;(first|(apply z0v;refine z1h mix ?_)|refine z27 ?_| refine z2e ?_| (apply z0j;(first|refine z0h (z13 (u:=z2j y) hy) rfl rfl ?_| refine z0h (z13 (u:=z2j s) hs) rfl rfl ?_))|(apply z0o;(refine z0h (z2m rfl (by simp;omega)) rfl rfl ?_))|(apply z1m;(refine z0h (z1g z0x) rfl rfl ?_))|(apply z1j;(refine z4s hc ?_))|(refine z2k (fun hg=>?_) (fun hg=>?_)<;> simp only[hg] <;> (try simp only[zA3,zA5,zA6,zA8] at hg)))))
      all_goals try (exfalso;omega)
      exact z0d ih' rfl rfl
theorem zyn (M:List Int) (lim:Int) (hm:M.length≤12):z1x Tryz.prog 121 [.ref (0,1000),I .i64 0,I .i64 M.length,I .i64 lim] [((0,1000),.row 21 1 (M.map rcc))] [((0,1000),.row 21 1 ((srt M).map rcc))] (.tup []):=by
 refine z2f fun H hH=>?_
 have hH0:=hH ((0,1000),.row 21 1 (M.map rcc)) (by simp)
 have hi:=zls [] M [] 0 M.length rfl (by simp) (by simp;omega)
 rw[List.nil_append,List.append_nil,List.nil_append,List.append_nil] at hi
 refine z0k Tryz.func121 (by kernel_rfl) rfl (by simp) ?_
 dsimp only[Tryz.f121]
 refine z2l 1000 0 1000 hH0 rfl rfl ?_
 repeat' (first|(apply z07;(refine z0r ?_))|(apply z08;(first|refine z0p ?_|apply z09))|(apply z05;(first|apply z06|apply z00|apply z01)))
 refine z1f ?_
 refine z4n ?_
 repeat' (first|(apply z07;(first|refine z0r ?_| (apply z0t;(refine z02 (z1g z0x) rfl rfl ?_))|(apply z0s;(refine z4a hi rfl rfl (by decide) ?_))))|(apply z08;(first|refine z0p ?_|apply z09))|(apply z05;(first|apply z06|apply z00|refine z0w ?_| apply z04|apply z01|refine z0f (fun _=>?_) (fun _=>?_))))
 all_goals try (exfalso;omega)
 refine z3t (raw:=.row 21 1 ((srt M).map rcc)) 1000 0 1000 ?_
 refine z0n Tryz.func121 _ (z3d rfl) ⟨rfl,?_⟩
 simp[z6s,z3a]
theorem zdq (x:Int) (h0:0≤x) (h1:x≤18446744073709551615):z0y Tryz.prog 122 [I .u64 x] (I .i64 (Lib.bitLen x.toNat)):=by
 refine zb9 ⟨_,Tryz.func122,by kernel_rfl,by kernel_rfl⟩ fun β own w vals hA=>?_
 obtain⟨hl,ha⟩:=hA
 obtain⟨v,rfl⟩:∃ v,vals=[v]:=by
  match vals,hl with
  | [v],_=>exact⟨v,rfl⟩
 have hv:=PR.lit (ha 0 _ v rfl rfl)
 subst hv
 exact⟨_,bits_Len x w h0 h1,fun w' own'=>PR.I _ _⟩
theorem zvm (M:List Int) (hm:M.length≤12):z1x Tryz.prog 106 [.ref (0,1000)] [((0,1000),.row 21 1 (M.map rcc))] [((0,1000),.row 21 1 ((srt M).map rcc))] (.tup []):=by
 refine z2f fun H hH=>?_
 have hH0:=hH ((0,1000),.row 21 1 (M.map rcc)) (by simp)
 have hb:=zdq M.length (by omega) (by omega)
 have hp:=zyn M (Lib.bitLen ((M.length:Int)).toNat) hm
 exact zD35
theorem ziw {l:List Int} {k:Nat} {x:Int} (h:l[k]? =some x):l.take (k+1)=l.take k++[x]:=by
 rw[List.take_add_one,h];rfl
theorem z96 {α:Type}:∀ (l zs:List α) (k:Nat),(z1d l k zs).take k=l.take k
 | [],[],k=>by simp[Ab.z1d]
 | [],z::zs,k=>by simp[Ab.z1d]
 | x::l,[],k=>by simp[Ab.z1d]
 | x::l,z::zs,0=>by simp
 | x::l,z::zs,k+1=>by
  have:z1d (x::l) (k+1) (z::zs)=x::z1d l k (z::zs):=by simp[Ab.z1d]
  rw[this,List.take_succ_cons,List.take_succ_cons,z96 l (z::zs) k]
theorem zb3 {α β:Type} (g:α→β):∀ (l zs:List α) (k:Nat),z1d (l.map g) k (zs.map g)=(z1d l k zs).map g
 | [],[],k=>by simp[Ab.z1d]
 | [],z::zs,k=>by simp[Ab.z1d]
 | x::l,[],k=>by simp[Ab.z1d]
 | x::l,z::zs,0=>by
  have:=zb3 g l zs 0
  simp only[List.map_cons] at this ⊢
  simp[Ab.z1d,this]
 | x::l,z::zs,k+1=>by
  have:=zb3 g l (z::zs) k
  simp only[List.map_cons] at this ⊢
  simp[Ab.z1d,this]
theorem y1i {l m:List Int} {i:Nat} (h:l.drop i=m.drop i):l.drop (i+1)=m.drop (i+1):=by
 have:=congrArg (List.drop 1) h
 simpa[List.drop_drop] using this
theorem zqz (l:List Int) (hl:l.length≤200000000):z1x Tryz.prog 107 [.ref (0,1000)] [((0,1000),.row 21 1 (l.map rcc))] [((0,1000),.gone)] (.d (.slice ((cpt l).map rcc))):=by
 refine z2f fun H hH=>?_
 have hH0:=hH ((0,1000),.row 21 1 (l.map rcc)) (by simp)
 refine z0k Tryz.func107 (by kernel_rfl) rfl (by simp) ?_
 dsimp only[Tryz.f107]
 refine z2l 1000 0 1000 hH0 rfl rfl ?_
 have fin:∀ {n:Nat} {tm:List (Nat × PV)} {hp:Hp} (q:List (List D)),q=(cpt l).map rcc→Ab.look tm 2=some (.d (.slice q))→Ab.look hp 1000=some .gone→True:=fun _ _ _ _=>trivial
 clear fin
 by_cases hs:l.length<2
 · have e1:cpt l=l:=by
    match l,hs with
    | [],_=>rfl
    | [x],_=>rfl
   rw[e1]
   repeat' (first|(apply z07;(first|refine z0r ?_| (apply z11;(refine z02 (z1t rfl) rfl rfl ?_))))|(apply z08;(first|refine z0p ?_|apply z09))|(apply z05;(first|apply z06|apply z00|apply z04|apply z01|refine z0f (fun _=>?_) (fun _=>?_))))
   all_goals try (exfalso;omega)
   refine z2g 1000 rfl ?_
   exact z0n Tryz.func107 _ z19 ⟨rfl,rfl⟩
 obtain⟨x0,hx0⟩:∃ x,l[0]? =some x:=⟨_,zA0 (by omega)⟩
 have hstart:cpt l=l.take 1++cq x0 (l.drop 1):=by
  cases l with
  | nil=>simp at hx0
  | cons x l=>simp at hx0;subst hx0;rfl
 repeat' (first|(apply z07;(first|refine z0r ?_| (apply z11;(refine z02 (z1t rfl) rfl rfl ?_))))|(apply z08;(first|refine z0p ?_|apply z09))|(apply z05;(first|apply z06|apply z00|apply z04|apply z01|refine z0f (fun _=>?_) (fun _=>?_))))
 all_goals try (exfalso;omega)
 refine z1f ?_
 refine z0d (z25 (fun q:Nat=>⟨61,[(0,.ref (0,1000)),(3,I .i64 ((q:Nat)+1:Int)),(101000,.al (0,1000) (1,1000))],[(1000,.row 21 1 (l.map rcc))],upd H (0,1000) .gone⟩) (fun q=>q+1≤l.length∧∃ x,l[q]? =some x∧cpt l=l.take (q+1)++cq x (l.drop (q+1))) (fun q=>l.length-q) ?_ 0 ⟨by omega,x0,hx0,hstart⟩) rfl rfl
 rintro k ⟨k1,x,hx,k2⟩ ih
 by_cases hlt:k+1<l.length
 · obtain⟨y,hy⟩:∃ y,l[k+1]? =some y:=⟨_,zA0 hlt⟩
   have hyi:l[((((k:Nat):Int)+1)).toNat]? =some y:=by rw[show (((k:Nat):Int)+1).toNat=k+1 by omega];exact hy
   have hxi:l[((((k:Nat):Int)+1)-1).toNat]? =some x:=by rw[show ((((k:Nat):Int)+1)-1).toNat=k by omega];exact hx
   rw[drop_cons hy,cq] at k2
   by_cases he:x=y
   · rw[zAz he] at k2
     have hsub:((((k:Nat):Int)+1)).toNat=k+1:=by omega
     clear ih
     repeat' (first|(apply z07;(first|refine z0r ?_| (apply z0t;(refine z02 (z0u z0x) rfl rfl ?_))|(apply zjs;(refine z02 (zi3 rfl (by omega) (by simp only[zA4];omega) rfl) rfl rfl ?_))|(apply z11;(refine z02 (z1t rfl) rfl rfl ?_))))|(apply z08;(first|refine z0p ?_|apply z09))|(apply z05;(first|apply z06|apply z00|apply z04|apply z01|apply z2b|apply z03|refine z0f (fun _=>?_) (fun _=>?_)| refine z0l ?_))|(apply z2c;(first|(apply z0v;refine z1h mix ?_)|refine z2e ?_| (apply z0j;(first|refine z0h (z13 (u:=z2j y) hyi) rfl rfl ?_| refine z0h (z13 (u:=z2j x) hxi) rfl rfl ?_))|(apply z0o;(refine z0h (z2m rfl (by simp only[zA4];omega)) rfl rfl ?_))|(apply z1m;(refine z0h (z1g z0x) rfl rfl ?_)))))
     all_goals try (exfalso;omega)
     refine z1f ?_
     have hln:(l.map rcc).length-((((k:Nat):Int)+1)).toNat=l.length-(k+1):=by rw[zA4,hsub]
     refine z0d (z25 (fun q:Nat × Nat × List Int=>⟨61,[(0,.ref (0,1000)),(3,I .i64 (q.1:Nat)),(4,.rsub (0,1000) 1 ((((k:Nat):Int)+1)).toNat ((l.map rcc).length-((((k:Nat):Int)+1)).toNat)),(5,I .i64 (q.2.1:Nat)),(101000,.al (0,1000) (1,1000))],[(1000,.row 21 1 (q.2.2.map rcc))],upd H (0,1000) .gone⟩) (fun q=>q.2.2.length=l.length∧k+1≤q.1∧q.1+1≤k+1+q.2.1∧1≤q.2.1∧k+1+q.2.1≤l.length∧q.2.2.drop (k+q.2.1)=l.drop (k+q.2.1)∧∃ z,l[k+q.2.1]? =some z∧cpt l=q.2.2.take q.1++cq z (l.drop (k+1+q.2.1))) (fun q=>l.length-q.2.1) ?_ (k+1,1,l) ⟨rfl,zAj _,by simp only;omega,zAj _,by simp only;omega,rfl,y,hy,k2⟩) rfl rfl
     rintro⟨a,b,r⟩ ⟨r1,r2,r3,r4,r5,r6,z,hz,r7⟩ ih
     simp only at r1 r2 r3 r4 r5 r6 hz r7 ih ⊢
     have hget:∀ i,k+b≤i→r[i]? =l[i]?:=fun i hi=>by
      have:=congrArg (fun m=>m[i-(k+b)]?) r6
      simp only[List.getElem?_drop] at this
      rwa [show k+b+(i-(k+b))=i by omega] at this
     by_cases hlb:k+1+b<l.length
     · obtain⟨u,hu⟩:∃ u,l[k+1+b]? =some u:=⟨_,zA0 hlb⟩
       have hui:r[((((k:Nat):Int)+1)).toNat+((b:Nat):Int).toNat]? =some u:=by rw[hsub,zA9,hget _ (by omega)];exact hu
       have hzi:r[((((k:Nat):Int)+1)).toNat+(((b:Nat):Int)-1).toNat]? =some z:=by rw[hsub,show k+1+(((b:Nat):Int)-1).toNat=k+b by omega,hget _ (by omega)];exact hz
       rw[drop_cons hu,cq] at r7
       have hai:∃ v,r[((a:Nat):Int).toNat]? =some v:=⟨_,zA0 (by omega)⟩
       obtain⟨v,hv⟩:=hai
       by_cases hzu:z=u
       · rw[zAz hzu] at r7
         have ih':=ih (a,b+1,r) ⟨r1,r2,by simp only;omega,by simp only;omega,by simp only;omega,by simp only;rw[← Nat.add_assoc];exact y1i r6,u,by rw[show k+(b+1)=k+1+b by omega];exact hu,by simp only;rw[r7,show k+1+(b+1)=k+1+b+1 by omega]⟩ (by simp only;omega)
         repeat' (first|(apply z07;(first|refine z0r ?_| (apply z0b;(refine z02 (z13 (u:=z2j u) hui) rfl rfl ?_))|(apply z0m;(refine z02 (za8 rfl (by omega) (by rw[hln];omega) (by rw[hln,hsub,zA4,r1];omega) rfl) rfl rfl ?_))|(apply z0t;(refine z02 (z0u z0x) rfl rfl ?_))|(apply z11;(refine z02 (zgs rfl) rfl rfl ?_))))|(apply z08;(first|refine z0p ?_|apply z09))|(apply z05;(first|apply z06|apply z00|apply z04|apply z01|apply z2b|apply z03|refine z0f (fun _=>?_) (fun _=>?_)| refine z5o rfl (fun _=>?_) (fun _=>?_)|refine z0l ?_))|(apply z2c;(first|(apply z0v;refine z1h mix ?_)|refine z2e ?_| (apply z0j;(first|refine z0h (z13 (u:=z2j u) hui) rfl rfl ?_| refine z0h (z13 (u:=z2j z) hzi) rfl rfl ?_))|(apply z0o;(refine z0h (za8 rfl (by omega) (by rw[hln];omega) (by rw[hln,hsub,zA4,r1];omega) rfl) rfl rfl ?_))|(apply z1m;(refine z0h (z1g z0x) rfl rfl ?_)))))
         all_goals exact zD18
       · rw[zAy hzu] at r7
         have hset:r.set ((a:Nat):Int).toNat u=r.set a u:=by rw[zA9]
         have ih':=ih (a+1,b+1,r.set a u) ⟨by simp[r1],by simp only;omega,by simp only;omega,by simp only;omega,by simp only;omega,by
          simp only
          rw[List.drop_set_of_lt (by omega),← Nat.add_assoc];exact y1i r6,u,by rw[show k+(b+1)=k+1+b by omega];exact hu,by
          simp only
          rw[ziw (x:=u) (by rw[zAp (by omega)]),List.take_set_of_le (zAj _),r7,show k+1+(b+1)=k+1+b+1 by omega]
          simp⟩ (by simp only;omega)
         repeat' (first|(apply z07;(first|refine z0r ?_| (apply z0b;(refine z02 (z13 (u:=z2j u) hui) rfl rfl ?_))|(apply z0m;(first|refine z02 (z2m rfl (by simp only[zA4];omega)) rfl rfl ?_| refine z02 (za8 rfl (by omega) (by rw[hln];omega) (by rw[hln,hsub,zA4,r1];omega) rfl) rfl rfl ?_))|(apply z0t;(refine z02 (z0u z0x) rfl rfl ?_))|(apply z11;(refine z02 (zgs rfl) rfl rfl ?_))|(apply z0c;(refine z5d u hv hset ?_))))|(apply z08;(first|refine z0p ?_|apply z09))|(apply z05;(first|apply z06|apply z00|apply z04|apply z01|apply z2b|apply z03|refine z0f (fun _=>?_) (fun _=>?_)| refine z5o rfl (fun _=>?_) (fun _=>?_)|refine z0l ?_))|(apply z2c;(first|(apply z0v;refine z1h mix ?_)|refine z2e ?_| (apply z0j;(first|refine z0h (z13 (u:=z2j u) hui) rfl rfl ?_| refine z0h (z13 (u:=z2j z) hzi) rfl rfl ?_))|(apply z0o;(refine z0h (za8 rfl (by omega) (by rw[hln];omega) (by rw[hln,hsub,zA4,r1];omega) rfl) rfl rfl ?_))|(apply z1m;(refine z0h (z1g z0x) rfl rfl ?_)))))
         all_goals exact zD18
     · have hbe:k+1+b=l.length:=by omega
       rw[List.drop_eq_nil_of_le (by omega),cq,List.append_nil] at r7
       have hspl:z1d (r.map rcc) ((a:Nat):Int).toNat (List.replicate ((r.map rcc).length-((a:Nat):Int).toNat) [.lit (.int .i32 0)])=(z1d r a (List.replicate (r.length-a) 0)).map rcc:=by
        rw[zA9,zA4,show ([.lit (.int .i32 0)]:List D)=rcc 0 from rfl,← List.map_replicate,zb3]
       have hres:(z1d r a (List.replicate (r.length-a) 0)).take ((a:Nat):Int).toNat=cpt l:=by
        rw[zA9,z96,← r7]
       have hlen2:(z1d r a (List.replicate (r.length-a) 0)).length=r.length:=z1u _ _ _
       generalize z1d r a (List.replicate (r.length-a) 0)=r2 at *
       repeat' (first|(apply z07;(first|(refine zz8 (e:=21) (z0:=.int .i32 0) rfl (z2t (by kernel_rfl)) rfl rfl rfl (by simp only[zA4];omega) ?_;rw[hspl];refine zcc 1000 rfl ?_)|refine z0r ?_| (apply zjs;(first|refine z02 (zi3 rfl (by omega) (by simp only[zA4];omega) rfl) rfl rfl ?_| refine z02 (zr2 (g:=rcc) rfl (by omega) (by omega) (fun _=>rfl)) rfl rfl ?_))|(apply z11;(refine z02 (zgs rfl) rfl rfl ?_))))|(apply z08;(first|refine z0p ?_|apply z09))|(apply z05;(first|apply z06|apply z00|apply z04|apply z01|apply z2b|refine z0f (fun _=>?_) (fun _=>?_)| refine z0l ?_))|(apply z2c;(refine z2e ?_)))
       all_goals try (exfalso;rw[hln] at *;omega)
       all_goals (rw[← hres];exact z0n Tryz.func107 _ z19 ⟨rfl,rfl⟩)
   · rw[zAy he] at k2
     have ih':=ih (k+1) ⟨by omega,y,hy,by rw[ziw hy,k2];simp⟩ (by omega)
     repeat' (first|(apply z07;(first|refine z0r ?_| (apply z0t;(refine z02 (z0u z0x) rfl rfl ?_))|(apply z11;(refine z02 (z1t rfl) rfl rfl ?_))))|(apply z08;(first|refine z0p ?_|apply z09))|(apply z05;(first|apply z06|apply z00|apply z04|apply z01|apply z2b|apply z03|refine z0f (fun _=>?_) (fun _=>?_)| refine z0l ?_))|(apply z2c;(first|(apply z0v;refine z1h mix ?_)|refine z2e ?_| (apply z0j;(first|refine z0h (z13 (u:=z2j y) hyi) rfl rfl ?_| refine z0h (z13 (u:=z2j x) hxi) rfl rfl ?_))|(apply z0o;(refine z0h (z2m rfl (by simp only[zA4];omega)) rfl rfl ?_))|(apply z1m;(refine z0h (z1g z0x) rfl rfl ?_)))))
     all_goals exact zD18
 · have hke:k+1=l.length:=by omega
   rw[hke,zAs,cq,List.append_nil,List.take_length] at k2
   rw[k2]
   repeat' (first|(apply z07;(first|refine z0r ?_| (apply z11;(refine z02 (z1t rfl) rfl rfl ?_))))|(apply z08;(first|refine z0p ?_|apply z09))|(apply z05;(first|apply z06|apply z00|apply z04|apply z01|apply z2b|refine z0f (fun _=>?_) (fun _=>?_)| refine z0l ?_))|(apply z2c;(refine z2e ?_)))
   all_goals try (exfalso;omega)
   refine z2g 1000 rfl ?_
   exact z0n Tryz.func107 _ z19 ⟨rfl,rfl⟩
open Go.Ab Go.Ax Go.Rx
def zbt (n:Nat):Prop:=∀ M:List Int,M.length≤n→z1x Tryz.prog 106 [.ref (0,1000)] [((0,1000),.row 21 1 (M.map rcc))] [((0,1000),.row 21 1 ((srt M).map rcc))] (.tup [])
theorem zna:zbt 12:=fun M h=>zvm M h
def ends (r:List Rg):List Int:=r.flatMap fun x=>[x.1,x.2+1]
def z4g (L:List (List Rg)):List Int:=[0,1114112]++L.flatMap ends
def z7z (L:List (List Rg)):List Int:=cpt (srt (z4g L))
theorem zx7 {N:Nat} (hS:zbt N) (L:List (List Rg)) (hN:(z4g L).length≤N) (hN2:N≤200000000) (hr:∀ r∈L,∀ x∈r,0≤x.1∧x.1≤1114111∧0≤x.2∧x.2≤1114111) (hl:L.length≤200000000) (hl2:∀ r∈L,r.length≤200000000) :
 z0y Tryz.prog 61 [.d (lvs L)] (.d (.slice ((z7z L).map rcc))):=by
 refine z1r fun H=>?_
 have hss:=hS (z4g L) hN
 have hcc:=zqz (srt (z4g L)) (by rw[zkg];omega)
 refine z0k Tryz.func61 (by kernel_rfl) rfl (by simp) ?_
 dsimp only[Tryz.f61]
 repeat' (first|(apply z07;(first|refine z0r ?_| (apply z11;(refine z02 (z1k rfl) rfl rfl ?_))|(apply z2o;(refine zet rfl rfl rfl rfl rfl rfl rfl rfl rfl (by decide) ?_))))|(apply z08;(first|refine z0p ?_|apply z09))|(apply z05;(first|apply z06|apply z00|apply z01)))
 refine z2p 8 1000 ?_
 refine z1f ?_
 refine z0d (z25 (fun q:Nat × List Int=>⟨35,[(3,.ref (0,1000)),(9,.d (lvs L)),(10,I .i64 L.length),(11,I .i64 (q.1:Nat))],[(1000,.row 21 1 (q.2.map rcc))],H⟩) (fun q=>q.1≤L.length∧q.2++(L.drop q.1).flatMap ends=z4g L) (fun q=>L.length-q.1) ?_ (0,[0,1114112]) ⟨zAf _,rfl⟩) rfl rfl
 rintro⟨i,acc⟩ ⟨i1,i2⟩ ih
 simp only at i1 i2 ih ⊢
 by_cases hlt:i<L.length
 · obtain⟨r,hri⟩:∃ r,L[i]? =some r:=⟨_,zA0 hlt⟩
   have hrm:=zA2 hri
   have hrr:=hr r hrm
   have hrl:=hl2 r hrm
   rw[drop_cons hri,List.flatMap_cons] at i2
   repeat' (first|(apply z07;(first|refine z0r ?_| (apply z0b;(refine z02 z2r rfl rfl ?_))|(apply z0m;(refine z02 (z1b (ys:=L.map fun r=>[rgs r]) rfl (idx (g:=fun r=>[rgs r]) hri)) rfl rfl ?_))|(apply z11;(refine z02 (z1k rfl) rfl rfl ?_))))|(apply z08;(first|refine z0p ?_|apply z09))|(apply z05;(first|apply z06|apply z00|apply z04|apply z01|refine z0f (fun _=>?_) (fun _=>?_)| refine z0l ?_)))
   all_goals try (exfalso;omega)
   refine z1f ?_
   refine z0d (z25 (fun q:Nat × List Int=>⟨35,[(3,.ref (0,1000)),(9,.d (lvs L)),(10,I .i64 L.length),(11,I .i64 (i:Nat)),(15,.d (rgs r)),(16,I .i64 r.length),(17,I .i64 (q.1:Nat))],[(1000,.row 21 1 (q.2.map rcc))],H⟩) (fun q=>q.1≤r.length∧q.2++(ends (r.drop q.1)++(L.drop (i+1)).flatMap ends)=z4g L) (fun q=>r.length-q.1) ?_ (0,acc) ⟨zAf _,i2⟩) rfl rfl
   rintro⟨j,acc2⟩ ⟨j1,j2⟩ ihj
   simp only at j1 j2 ihj ⊢
   by_cases hj:j<r.length
   · obtain⟨x,hx⟩:∃ x,r[j]? =some x:=⟨_,zA0 hj⟩
     obtain⟨x1,x2,x3,x4⟩:=hrr x (zA2 hx)
     have ha2:acc2.length≤N:=by have:=congrArg List.length j2;rw[zAa] at this;omega
     rw[drop_cons hx,ends,List.flatMap_cons,← ends] at j2
     have ihj':=ihj (j+1,acc2++[x.1,x.2+1]) ⟨by simp only;omega,by simp only;rw[← j2];simp⟩ (by simp only;omega)
     repeat' (first|(apply z07;(first|refine z0r ?_| (apply z0b;(first|refine z02 z1i rfl rfl ?_| refine z02 z1z rfl rfl ?_))|(apply z0e;(refine z02 z0q rfl rfl ?_))|(apply z0m;(refine z02 (z1b (ys:=r.map rgc) rfl (idx (g:=rgc) hx)) rfl rfl ?_))|(apply z0t;(first|refine z02 (z0u (zak (by omega) (by omega))) rfl rfl ?_| refine z02 (z0u z0x) rfl rfl ?_))|(apply z11;(refine zw6 (g:=rcc) (r:=[x.1,x.2+1]) rfl rfl rfl rfl rfl (fun _=>rfl) rfl rfl (by decide) (by simp;omega) ?_))|(apply z0c;(refine z22 ?_))|(apply z0g;(refine z0a z16 ?_))|(apply z2o;(refine z2s rfl ?_))))|(apply z08;(first|refine z0p ?_|apply z09))|(apply z05;(first|apply z06|apply z00|apply z04|apply z01|apply z03|refine z0f (fun _=>?_) (fun _=>?_)| refine z0l ?_)))
     all_goals try (exfalso;omega)
     all_goals refine z2p 28 1000 ?_
     all_goals exact z0d ihj' rfl rfl
   · obtain rfl:j=r.length:=by omega
     rw[zAs,ends,List.flatMap_nil,List.nil_append] at j2
     have ih':=ih (i+1,acc2) ⟨by simp only;omega,j2⟩ (by simp only;omega)
     repeat' (first|(apply z07;(first|refine z0r ?_| (apply z0t;(refine z02 (z0u z0x) rfl rfl ?_))))|(apply z08;(first|refine z0p ?_|apply z09))|(apply z05;(first|apply z06|apply z00|apply z04|apply z01|apply z03|refine z0f (fun _=>?_) (fun _=>?_)| refine z0l ?_)))
     all_goals exact zD18
 · obtain rfl:i=L.length:=by omega
   rw[zAs,List.flatMap_nil,List.append_nil] at i2
   subst i2
   repeat' (first|(apply z07;(first|refine z0r ?_| (apply z0s;(first|refine z4a hss rfl rfl (by decide) ?_|refine z4a hcc rfl rfl (by decide) ?_))))|(apply z08;(first|refine z0p ?_|apply z09))|(apply z05;(first|apply z06|apply z00|apply z04|apply z01|refine z0f (fun _=>?_) (fun _=>?_)| refine z0l ?_)))
   all_goals try (exfalso;omega)
   all_goals exact z0n Tryz.func61 _ z19 ⟨rfl,rfl⟩
def okP (n m:Nat) (k:Int × Int):Prop:=-1≤k.1∧k.1<n∧-1≤k.2∧k.2<m
abbrev bsP (F G:List Bool) (A C:List (List Arc)) (op:Int):List (Nm × Blk):=[((1,3),BX F A),((1,4),BX G C),((1,5),.box [I .i64 op])]
theorem zz1 (F G:List Bool) (A C:List (List Arc)) (op:Int) (k:Int × Int) (hk:okP F.length G.length k):z1x Tryz.prog 94 [pcP k,.ptr (1,5) 0,.ptr (1,3) 0,.ptr (1,4) 0] (bsP F G A C op) [] (B (zbc op ((⟨F,A⟩:Au).fin k.1) ((⟨G,C⟩:Au).fin k.2))):=by
 refine z2f fun H hH=>?_
 have h3:H 1 3=some (BX F A):=hH ((1,3),BX F A) (by simp)
 have h4:H 1 4=some (BX G C):=hH ((1,4),BX G C) (by simp)
 have h5:H 1 5=some (.box [I .i64 op]):=hH ((1,5),.box [I .i64 op]) (by simp)
 have hf1:=zh4 ⟨F,A⟩ k.1 hk.2.1
 have hf2:=zh4 ⟨G,C⟩ k.2 hk.2.2.2
 have hc:=zpa op ((⟨F,A⟩:Au).fin k.1) ((⟨G,C⟩:Au).fin k.2)
 generalize (⟨F,A⟩:Au).fin k.1=x at *
 generalize (⟨G,C⟩:Au).fin k.2=y at *
 refine z0k Tryz.func94 (by kernel_rfl) rfl (by simp) ?_
 dsimp only[Tryz.f94]
 repeat' (first|(apply z07;(first|refine z0r ?_| (apply z1s;(refine z0a z3y ?_))))|(apply z08;(first|refine z0p ?_|apply z09))|(apply z05;(first|apply z06|apply z00|apply z2b))|(apply z2c;(first|(apply z0v;refine z1h mix ?_)|refine z2e ?_| (apply z0j;(first|refine z0h (z2q (b:=BX G C) (cs:=auc ⟨G,C⟩)) rfl (bkN h4) ?_| refine z0h (z2q (b:=BX F A) (cs:=auc ⟨F,A⟩)) rfl (bkN h3) ?_| refine zau (by first|exact rfl|exact⟨_,rfl,rfl,rfl⟩) rfl h5 rfl rfl rfl rfl (by decide) ?_|refine z0h z1i rfl rfl ?_))|(apply z0z;(refine z0h z0q rfl rfl ?_))|(apply z1j;(first|refine z4s hf1 ?_| refine z4s hf2 ?_| refine z4s hc ?_)))))
 all_goals exact z0n Tryz.func94 _ z19 ⟨rfl,rfl⟩
def prE (op:Int) (l m:List Arc) (pts:List Int) (i:Nat):Option (Go.Ax.Edge (Int × Int)) :=
 if zeh op (nxt l (pts.getD i 0)) (nxt m (pts.getD i 0))=true then none else some (pts.getD i 0,pts.getD (i+1) 0-1,(nxt l (pts.getD i 0),nxt m (pts.getD i 0)))
def z4y (l m:List Arc):List Int:=z7z [z5k l,z5k m]
def z6p (op:Int) (l m:List Arc):List (Go.Ax.Edge (Int × Int)):=(List.range ((z4y l m).length-1)).filterMap (prE op l m (z4y l m))
theorem z5q {α β:Type} (f:α→Option β) (l:List α):(l.filterMap f).length≤l.length:=List.length_filterMap_le f l
theorem zlc (L:List (List Rg)):1≤(z7z L).length:=by
 have h:=(zdg (Go.Ax.z9f (z4g L))).2 0
 have:(0:Int)∈z7z L:=by
  rw[z7z,h]
  exact(Go.Ax.z7j _).mem_iff.2 (by simp[z4g])
 exact List.length_pos_of_mem this
theorem z8r {L:List (List Rg)} (hr:∀ r∈L,∀ x∈r,0≤x.1∧x.1≤1114111∧0≤x.2∧x.2≤1114111):∀ z∈z7z L,0≤z∧z≤1114112:=fun z hz=>by
 rw[z7z,(zdg (Go.Ax.z9f (z4g L))).2 z,(Go.Ax.z7j _).mem_iff,z4g,zAt] at hz
 rcases hz with hz|hz
 · simp at hz;omega
 · rw[List.mem_flatMap] at hz
   obtain⟨r,hrr,hz⟩:=hz
   rw[ends,List.mem_flatMap] at hz
   obtain⟨x,hx,hz⟩:=hz
   have:=hr r hrr x hx
   simp at hz;omega
theorem zlh:∀ r:List Rg,(ends r).length=2*r.length
 | []=>rfl
 | x::r=>by rw[ends,List.flatMap_cons,zAa,← ends,zlh r];simp only[zAk,List.length_nil];omega
theorem y0l {N:Nat} (hS:zbt N) (hN:N≤200000000) (F G:List Bool) (A C:List (List Arc)) (op:Int) (hA:zci F A) (hC:zci G C) (k:Int × Int) (hk:okP F.length G.length k)
 (hsz:2+2*((⟨F,A⟩:Au).arcs k.1).length+2*((⟨G,C⟩:Au).arcs k.2).length≤N) :
 z1x Tryz.prog 97 [pcP k,.ptr (1,3) 0,.ptr (1,4) 0,.ptr (1,5) 0] (bsP F G A C op) [] (.d (.slice ((z6p op ((⟨F,A⟩:Au).arcs k.1) ((⟨G,C⟩:Au).arcs k.2)).map ped))):=by
 refine z2f fun H hH=>?_
 have h3:H 1 3=some (BX F A):=hH ((1,3),BX F A) (by simp)
 have h4:H 1 4=some (BX G C):=hH ((1,4),BX G C) (by simp)
 have h5:H 1 5=some (.box [I .i64 op]):=hH ((1,5),.box [I .i64 op]) (by simp)
 have hf1:=znb ⟨F,A⟩ k.1 (by have:=hA.len;have:=hk.2.1;simp only;omega)
 have hf2:=znb ⟨G,C⟩ k.2 (by have:=hC.len;have:=hk.2.2.2;simp only;omega)
 have arcP:∀ {F:List Bool} {A:List (List Arc)},zci F A→∀ q:Int,okA none ((⟨F,A⟩:Au).arcs q)∧((⟨F,A⟩:Au).arcs q).length≤2000000∧∀ x∈(⟨F,A⟩:Au).arcs q,0≤x.1∧x.1≤x.2.1∧x.2.1≤1114111:=fun {F A} hA q=>by
  rw[Au.arcs]
  split
  · exact⟨trivial,by simp,by simp⟩
  · cases hq:A[q.toNat]? with
    | none=>rw[List.getD,hq];exact⟨trivial,by simp,by simp⟩
    | some l =>
     rw[List.getD,hq]
     obtain⟨a1,a2,a3⟩:=hA.arc l (zA2 hq)
     exact⟨a1,a2,fun x hx=>by have:=a3 x hx;omega⟩
 obtain⟨l0,l1,l2⟩:=arcP hA k.1
 obtain⟨m0,m1,m2⟩:=arcP hC k.2
 generalize (⟨F,A⟩:Au).arcs k.1=l at *
 generalize (⟨G,C⟩:Au).arcs k.2=m at *
 have hr1:=zeq l l1
 have hr2:=zeq m m1
 have hrr:∀ r∈[z5k l,z5k m],∀ x∈r,0≤x.1∧x.1≤1114111∧0≤x.2∧x.2≤1114111:=fun r hr x hx=>by
  simp only[zAc,List.not_mem_nil,or_false] at hr
  rcases hr with rfl|rfl
  · simp only[z5k,List.mem_map] at hx;obtain⟨y,hy,rfl⟩:=hx;have:=l2 y hy;simp only;omega
  · simp only[z5k,List.mem_map] at hx;obtain⟨y,hy,rfl⟩:=hx;have:=m2 y hy;simp only;omega
 have hll:(z5k l).length=l.length:=by simp[z5k]
 have hml:(z5k m).length=m.length:=by simp[z5k]
 have hel:(z4g [z5k l,z5k m]).length=2+2*l.length+2*m.length:=by
  simp[z4g,zlh,hll,hml];omega
 have hcuts:=zx7 hS [z5k l,z5k m] (by omega) hN hrr (by simp) (fun r hr=>by simp only[zAc,List.not_mem_nil,or_false] at hr;rcases hr with rfl|rfl <;> omega)
 have hpr:=z8r hrr
 have hpl:=zlc [z5k l,z5k m]
 have hpl2:(z7z [z5k l,z5k m]).length≤200000000:=by have:=zq0 (Go.Ax.srt (z4g [z5k l,z5k m]));rw[Go.Ax.zkg,hel] at this;rw[z7z];omega
 have hst1:=fun c:Int=>zog l (by omega) l0 c
 have hst2:=fun c:Int=>zog m (by omega) m0 c
 have hus:=zpw op
 have hEq:z6p op l m=(List.range ((z4y l m).length-1)).filterMap (prE op l m (z4y l m)):=rfl
 rw[hEq]
 change z0y Tryz.prog 61 [.d (lvs [z5k l,z5k m])] (.d (.slice ((z4y l m).map rcc))) at hcuts
 change ∀ z∈z4y l m,0≤z∧z≤1114112 at hpr
 change 1≤(z4y l m).length at hpl
 change (z4y l m).length≤200000000 at hpl2
 generalize z4y l m=pts at *
 clear hEq
 refine z0k Tryz.func97 (by kernel_rfl) rfl (by simp) ?_
 dsimp only[Tryz.f97]
 repeat' (first|(apply z07;(first|refine z0r ?_| (apply z0t;(refine z02 (z1g z0x) rfl rfl ?_))|(apply z11;(refine z02 (z1k rfl) rfl rfl ?_))|(apply z0s;(first|refine z1w hr1 ?_| refine z1w hr2 ?_| refine z1w hcuts ?_))|(apply z1s;(refine z0a z3y ?_))|(apply z2o;(refine z2s rfl ?_))))|(apply z08;(first|refine z0p ?_|apply z09))|(apply z05;(first|apply z06|apply z00|apply z01|apply z2b))|(apply z2c;(first|(apply z0v;refine z1h mix ?_)|refine z2e ?_| (apply z0j;(first|refine z0h (z2q (b:=BX G C) (cs:=auc ⟨G,C⟩)) rfl (bkN h4) ?_| refine z0h (z2q (b:=BX F A) (cs:=auc ⟨F,A⟩)) rfl (bkN h3) ?_| refine z0h z1i rfl rfl ?_))|(apply z0z;(refine z0h z0q rfl rfl ?_))|(apply z1j;(first|refine z4s hf1 ?_| refine z4s hf2 ?_)))))
 all_goals try (exfalso;omega)
 refine z2x 9 1001 146 4 rfl rfl rfl ?_
 refine z1f ?_
 refine z0d (z25 (fun q:Nat=>⟨66,[(3,.ptr (2,5) 0),(6,.d (zbp l)),(7,.d (zbp m)),(8,.d (.slice (pts.map rcc))),(9,.ref (0,1001)),(28,I .i64 ((pts.length:Int)-1)),(29,I .i64 (q:Nat))],[(1001,.row 146 4 (((List.range q).filterMap (prE op l m pts)).map ped))],H⟩) (fun q=>q≤pts.length-1) (fun q=>pts.length-1-q) ?_ 0 (zAf _)) rfl rfl
 intro i hi ih
 by_cases hlt:i<pts.length-1
 · obtain⟨x,hx⟩:∃ x,pts[i]? =some x:=⟨_,zA0 (by omega)⟩
   obtain⟨y,hy⟩:∃ y,pts[i+1]? =some y:=⟨_,zA0 (by omega)⟩
   have hyi:pts[(((i:Nat):Int)+1).toNat]? =some y:=by rw[show (((i:Nat):Int)+1).toNat=i+1 by omega];exact hy
   have hxr:=hpr x (zA2 hx)
   have hyr:=hpr y (zA2 hy)
   have hs1:=hst1 x
   have hs2:=hst2 x
   have hu:=hus (nxt l x) (nxt m x)
   have hfl:=z5q (prE op l m pts) (List.range i)
   rw[List.length_range] at hfl
   have ih':=ih (i+1) (by omega) (by omega)
   have hstep:(List.range (i+1)).filterMap (prE op l m pts)=(List.range i).filterMap (prE op l m pts)++(prE op l m pts i).toList:=by
    rw[List.range_succ,List.filterMap_append];simp[List.filterMap_cons];cases prE op l m pts i <;> rfl
   rw[hstep,prE,z47 hx,z47 hy] at ih'
   clear ih hstep
   generalize (List.range i).filterMap (prE op l m pts)=out at *
   generalize nxt l x=p1 at *
   generalize nxt m x=p2 at *
   by_cases hul:zeh op p1 p2=true
   · rw[zAz hul,Option.toList_none,List.append_nil] at ih'
     rw[hul] at hu
     repeat' (first|(apply z07;(first|refine z0r ?_| (apply z0b;(first|refine z3s rfl h5 rfl rfl rfl rfl (by decide) ?_|refine z02 z1y rfl rfl ?_))|(apply z0t;(refine z02 (z0u z0x) rfl rfl ?_))|(apply z0s;(refine z1w hu ?_))))|(apply z08;(first|refine z0p ?_|apply z09))|(apply z05;(first|apply z06|apply z00|refine z0w ?_| apply z04|apply z01|apply z2b|apply z03|refine z0f (fun _=>?_) (fun _=>?_)| refine z0l ?_))|(apply z2c;(first|(apply z0v;refine z1h mix ?_)|refine z2e ?_| (apply z0j;(refine z0h z2r rfl rfl ?_))|(apply z0o;(refine z0h (z1b (ys:=pts.map rcc) rfl (idx (g:=rcc) hx)) rfl rfl ?_))|(apply z1j;(first|refine z4s hs1 ?_| refine z4s hs2 ?_))|(apply z1q;(refine z52 (by first|exact rfl|exact⟨_,rfl,rfl,rfl⟩) rfl rfl rfl rfl rfl rfl ?_))|(apply zgq;(refine zjo (by first|exact rfl|exact⟨_,rfl,rfl,rfl⟩) rfl rfl (by decide) ?_))|(apply zfe;(refine zju (by first|exact rfl|exact⟨_,rfl,rfl,rfl⟩) rfl rfl rfl rfl rfl rfl rfl (by decide) ?_)))))
     all_goals exact zD43
   · rw[zAy hul,Option.toList_some] at ih'
     rw[Bool.not_eq_true] at hul
     rw[hul] at hu
     repeat' (first|(apply z07;(first|refine z0r ?_| (apply z0b;(first|refine z3s rfl h5 rfl rfl rfl rfl (by decide) ?_|refine z02 z1y rfl rfl ?_))|(apply z0t;(refine z02 (z0u z0x) rfl rfl ?_))|(apply z0s;(refine z1w hu ?_))))|(apply z08;(first|refine z0p ?_|apply z09))|(apply z05;(first|apply z06|apply z00|refine z1c ?_| apply z04|apply z01|apply z2b|apply z03|refine z0f (fun _=>?_) (fun _=>?_)| refine z0l ?_))|(apply z2c;(first|(apply z0v;refine z1h mix ?_)|refine z2e ?_| (apply z0j;(first|refine z0h z2r rfl rfl ?_| refine z0h z1y rfl rfl ?_))|(apply z0o;(first|refine z0h (z1b (ys:=pts.map rcc) rfl (idx (g:=rcc) hx)) rfl rfl ?_| refine z0h (z1b (ys:=pts.map rcc) rfl (zgu (g:=rcc) hyi)) rfl rfl ?_))|(apply z1m;(first|refine z0h (z1g (zak (by omega) (by omega))) rfl rfl ?_| refine z0h (z0u z0x) rfl rfl ?_))|(apply z6u;(refine zbm (g:=ped) (by first|exact rfl|exact⟨_,rfl,rfl,rfl⟩) rfl rfl ((x,y-1,(p1,p2)):Go.Ax.Edge (Int × Int)) rfl rfl rfl rfl rfl rfl rfl (by decide) (by omega) ?_))|(apply z1j;(first|refine z4s hs1 ?_| refine z4s hs2 ?_))|(apply z1q;(refine z52 (by first|exact rfl|exact⟨_,rfl,rfl,rfl⟩) rfl rfl rfl rfl rfl rfl ?_))|(apply zgq;(refine zjo (by first|exact rfl|exact⟨_,rfl,rfl,rfl⟩) rfl rfl (by decide) ?_))|(apply zfe;(refine zju (by first|exact rfl|exact⟨_,rfl,rfl,rfl⟩) rfl rfl rfl rfl rfl rfl rfl (by decide) ?_))|(apply za4;(refine zg3 rfl ?_)))))
     all_goals try (exfalso;first|omega|(simp at *;done))
     all_goals refine z2p 63 1001 ?_
     all_goals exact z0d ih' rfl rfl
 · obtain rfl:i=pts.length-1:=by omega
   clear ih
   repeat' (first|(apply z07;(refine z0r ?_))|(apply z08;(first|refine z0p ?_|apply z09))|(apply z05;(first|apply z06|apply z00|apply z04|apply z01|apply z2b|refine z0f (fun _=>?_) (fun _=>?_)| refine z0l ?_))|(apply z2c;(refine z2e ?_)))
   all_goals try (exfalso;omega)
   all_goals refine z2g 1001 rfl ?_
   all_goals exact z0n Tryz.func97 _ z19 ⟨rfl,rfl⟩
theorem zmx {F:List Bool} {A:List (List Arc)} (hA:zci F A) (q:Int):okA none ((⟨F,A⟩:Au).arcs q)∧∀ x∈(⟨F,A⟩:Au).arcs q,0≤x.1∧x.1≤x.2.1∧x.2.1≤1114111∧0≤x.2.2∧x.2.2<F.length:=by
 rw[Au.arcs]
 split
 · exact⟨trivial,by simp⟩
 · cases hq:A[q.toNat]? with
   | none=>rw[List.getD,hq];exact⟨trivial,by simp⟩
   | some l =>
    rw[List.getD,hq]
    obtain⟨a1,a2,a3⟩:=hA.arc l (zA2 hq)
    exact⟨a1,a3⟩
theorem zll {F:List Bool} {A:List (List Arc)} {a:Nat} (h:∀ l∈A,l.length≤a) (q:Int):((⟨F,A⟩:Au).arcs q).length≤a:=by
 rw[Au.arcs]
 split
 · simp
 · cases hq:A[q.toNat]? with
   | none=>rw[List.getD,hq];simp
   | some l=>rw[List.getD,hq];exact h l (zA2 hq)
theorem zpd {l:List Arc} {n:Nat} (h0:okA none l) (h:∀ x∈l,0≤x.2.2∧x.2.2<n) (c:Int):-1≤nxt l c∧nxt l c<n:=by
 refine⟨zkw (p:=none) h0 c,?_⟩
 by_cases e:nxt l c=-1
 · rw[e];omega
 · obtain⟨y,hy,e2⟩:=zim e
   have:=h y hy;omega
theorem zrq {l m:List Arc} (hl:∀ x∈l,0≤x.1∧x.1≤x.2.1∧x.2.1≤1114111) (hm:∀ x∈m,0≤x.1∧x.1≤x.2.1∧x.2.1≤1114111):∀ r∈[z5k l,z5k m],∀ x∈r,0≤x.1∧x.1≤1114111∧0≤x.2∧x.2≤1114111:=fun r hr x hx=>by
 simp only[zAc,List.not_mem_nil,or_false] at hr
 rcases hr with rfl|rfl
 · simp only[z5k,List.mem_map] at hx;obtain⟨y,hy,rfl⟩:=hx;have:=hl y hy;simp only;omega
 · simp only[z5k,List.mem_map] at hx;obtain⟨y,hy,rfl⟩:=hx;have:=hm y hy;simp only;omega
theorem zsz (L:List (List Rg)):(z7z L).Pairwise (· <·):=(zdg (Go.Ax.z9f (z4g L))).1
theorem zig {op:Int} {l m:List Arc} {e:Go.Ax.Edge (Int × Int)} (h:e∈z6p op l m):∃ i x y,(z4y l m)[i]? =some x∧(z4y l m)[i+1]? =some y∧e=(x,y-1,(nxt l x,nxt m x))∧zeh op (nxt l x) (nxt m x)=false:=by
 rw[z6p,List.mem_filterMap] at h
 obtain⟨i,hi,he⟩:=h
 rw[List.mem_range] at hi
 obtain⟨x,hx⟩:∃ x,(z4y l m)[i]? =some x:=⟨_,zA0 (by omega)⟩
 obtain⟨y,hy⟩:∃ y,(z4y l m)[i+1]? =some y:=⟨_,zA0 (by omega)⟩
 rw[prE,z47 hx,z47 hy] at he
 split at he
 · cases he
 · rename_i hu
   simp only[zAh] at he
   exact⟨i,x,y,hx,hy,he.symm,by simpa using hu⟩
theorem zva {op:Int} {F G:List Bool} {A C:List (List Arc)} (hA:zci F A) (hC:zci G C) (k:Int × Int):edE (z6p op ((⟨F,A⟩:Au).arcs k.1) ((⟨G,C⟩:Au).arcs k.2))∧∀ e∈z6p op ((⟨F,A⟩:Au).arcs k.1) ((⟨G,C⟩:Au).arcs k.2),okP F.length G.length e.2.2:=by
 obtain⟨l0,l1⟩:=zmx hA k.1
 obtain⟨m0,m1⟩:=zmx hC k.2
 generalize (⟨F,A⟩:Au).arcs k.1=l at *
 generalize (⟨G,C⟩:Au).arcs k.2=m at *
 have hr:=z8r (zrq (fun x hx=>by have:=l1 x hx;omega) (fun x hx=>by have:=m1 x hx;omega))
 have hlt:=zsz [z5k l,z5k m]
 have hlen:=zji (B:=1114112) hlt (fun z hz=>by have:=hr z hz;omega)
 refine⟨⟨?_,fun e he=>?_⟩,fun e he=>?_⟩
 · have:=z5q (prE op l m (z4y l m)) (List.range ((z4y l m).length-1))
   rw[List.length_range] at this
   rw[z6p];rw[z4y] at *;omega
 · obtain⟨i,x,y,hx,hy,rfl,_⟩:=zig he
   exact zD65
 · obtain⟨i,x,y,hx,hy,rfl,_⟩:=zig he
   have h1:=zpd (n:=F.length) l0 (fun z hz=>by have:=l1 z hz;omega) x
   have h2:=zpd (n:=G.length) m0 (fun z hz=>by have:=m1 z hz;omega) x
   exact⟨h1.1,h1.2,h2.1,h2.2⟩
def zfo (F G:List Bool) (A C:List (List Arc)) (op:Int):Option Au:=exL (fun k=>zbc op ((⟨F,A⟩:Au).fin k.1) ((⟨G,C⟩:Au).fin k.2)) (fun k=>z6p op ((⟨F,A⟩:Au).arcs k.1) ((⟨G,C⟩:Au).arcs k.2)) 1048576 1048577 0 [(0,0)] ⟨[],[]⟩
theorem zhm {N a c:Nat} (hS:zbt N) (hN:N≤200000000) (F G:List Bool) (A C:List (List Arc)) (op:Int) (hA:zci F A) (hC:zci G C) (ha:∀ l∈A,l.length≤a) (hc:∀ l∈C,l.length≤c) (hac:2+2*a+2*c≤N) :
 z0y Tryz.prog 49 [.d (auD ⟨F,A⟩),.d (auD ⟨G,C⟩),I .i64 op] (exR (zfo F G A C op)):=by
 refine z1r fun H=>?_
 have hex:z1x Tryz.prog 101 [pcP (0,0),.fn (.func 94) [] [.ptr (0,5) 0,.ptr (0,3) 0,.ptr (0,4) 0],.fn (.func 97) [] [.ptr (0,3) 0,.ptr (0,4) 0,.ptr (0,5) 0],I .i64 1048576] [((0,3),BX F A),((0,4),BX G C),((0,5),.box [I .i64 op])] [] (exR (zfo F G A C op)):=z2f fun H hH =>
  znu (BX F A) (BX G C) (.box [I .i64 op]) (okP F.length G.length) (fun k=>zbc op ((⟨F,A⟩:Au).fin k.1) ((⟨G,C⟩:Au).fin k.2)) (fun k=>z6p op ((⟨F,A⟩:Au).arcs k.1) ((⟨G,C⟩:Au).arcs k.2)) (0,0) 1048576 (by decide) (by decide) ⟨by decide,by have:=hA.pos;simp only;omega,by decide,by have:=hC.pos;simp only;omega⟩
   (fun k hk=>zz1 F G A C op k hk) (fun k hk=>y0l hS hN F G A C op hA hC k hk (by have:=zll (F:=F) ha k.1;have:=zll (F:=G) hc k.2;omega)) (fun k hk=>zva hA hC k) H (hH ((0,3),BX F A) (by simp)) (hH ((0,4),BX G C) (by simp)) (hH ((0,5),.box [I .i64 op]) (by simp))
 generalize zfo F G A C op=o at *
 cases o with
 | some x =>
  exact zD42
 | none =>
  exact zD42
abbrev y55:PV:=.tup [.d (auD ⟨[],[]⟩),I .i64 1]
def zm6 (o:Option Au):PV:=match o with
 | some a=>.tup [.d (auD a),I .i64 0]
 | none=>.tup [.d (auD ⟨[],[]⟩),I .i64 2]
noncomputable def y5r (a b:Au) (op:Int):Option Au:=(zfo a.F b.F a.A b.A op).bind fun x=>zoe x.F x.A 256
theorem y4r {N n m:Nat} (hS:zbt N) (hN:N≤200000000) (a b:Au) (op:Int) (hfa:zo9 a) (hfb:zo9 b) (ha:vAu a=0) (hb:vAu b=0) (h1:1≤op) (h4:op≤4) (hA:zci a.F a.A) (hB:zci b.F b.A) (hn:∀ l∈a.A,l.length≤n) (hm:∀ l∈b.A,l.length≤m) (hnm:2+2*n+2*m≤N)
 (hX:∀ x,zfo a.F b.F a.A b.A op=some x→zci x.F x.A):z0y Tryz.prog 24 [.d (auD a),.d (auD b),I .i64 op] (zm6 (y5r a b op)):=by
 refine z1r fun H=>?_
 have hva:=zap a hfa
 have hvb:=zap b hfb
 rw[ha] at hva
 rw[hb] at hvb
 have hp:=zhm hS hN a.F b.F a.A b.A op hA hB hn hm hnm
 rw[y5r]
 obtain⟨F,A⟩:=a
 obtain⟨G,C⟩:=b
 simp only at hp hX ⊢
 generalize zfo F G A C op=o at *
 cases o with
 | none =>
  simp only[exR] at hp
  simp only[Option.bind_none,zm6]
  refine z0k Tryz.func24 (by kernel_rfl) rfl (by simp) ?_
  dsimp only[Tryz.f24]
  repeat' (first|(apply z07;(first|refine z0r ?_| (apply z0b;(refine z02 z2q rfl rfl ?_))|(apply z0s;(first|refine z1w hva ?_| refine z1w hvb ?_| refine z1w hp ?_))|(apply z0c;(refine z22 ?_))|(apply z0g;(refine z0a z16 ?_))|(apply z1s;(refine z0a z3y ?_))|(apply z10;(refine z23 ?_))))|(apply z08;(first|refine z0p ?_|apply z09|refine z1v ?_| refine z2n (fun _=>?_) (fun _=>?_)))|(apply z05;(first|apply z06|apply z00|refine z1c ?_| refine z0w ?_| apply z04|refine z0f (fun _=>?_) (fun _=>?_))))
  all_goals exact zD71
 | some x =>
  obtain⟨xF,xA⟩:=x
  have hmi:=zhx _ _ (hX _ rfl) 256 (by decide) (by decide)
  simp only at hmi
  simp only[exR] at hp
  simp only[Option.bind_some]
  generalize zoe xF xA 256=o2 at *
  cases o2 with
  | none =>
   simp only[exR] at hmi
   simp only[zm6]
   refine z0k Tryz.func24 (by kernel_rfl) rfl (by simp) ?_
   dsimp only[Tryz.f24]
   repeat' (first|(apply z07;(first|refine z0r ?_| (apply z0b;(first|refine z02 z2q rfl rfl ?_| refine z02 z1y rfl rfl ?_))|(apply z0s;(first|refine z1w hva ?_| refine z1w hvb ?_| refine z1w hp ?_| refine z1w hmi ?_))|(apply z0c;(refine z22 ?_))|(apply z0g;(refine z0a z16 ?_))|(apply z1s;(refine z0a z3y ?_))|(apply z10;(refine z23 ?_))))|(apply z08;(first|refine z0p ?_|apply z09|refine z1v ?_| refine z2n (fun _=>?_) (fun _=>?_)))|(apply z05;(first|apply z06|apply z00|refine z1c ?_| apply z04|refine z0f (fun _=>?_) (fun _=>?_))))
   all_goals exact zD71
  | some y =>
   simp only[exR] at hmi
   simp only[zm6]
   refine z0k Tryz.func24 (by kernel_rfl) rfl (by simp) ?_
   dsimp only[Tryz.f24]
   repeat' (first|(apply z07;(first|refine z0r ?_| (apply z0b;(first|refine z02 z2q rfl rfl ?_| refine z02 z1y rfl rfl ?_))|(apply z0s;(first|refine z1w hva ?_| refine z1w hvb ?_| refine z1w hp ?_| refine z1w hmi ?_))|(apply z0c;(refine z22 ?_))|(apply z0g;(refine z0a z16 ?_))|(apply z1s;(refine z0a z3y ?_))|(apply z10;(refine z23 ?_))))|(apply z08;(first|refine z0p ?_|apply z09|refine z1v ?_| refine z2n (fun _=>?_) (fun _=>?_)))|(apply z05;(first|apply z06|apply z00|refine z1c ?_| refine z0w ?_| apply z04|refine z0f (fun _=>?_) (fun _=>?_))))
   all_goals exact zD71
def zx9:Au:=⟨[true],[[(0,1114111,0)]]⟩
theorem zyd (a:Au) {p:PV} (hp:∃ (b:Au) (e:Int),p=.tup [.d (auD b),I .i64 e]) (h:z0y Tryz.prog 24 [.d (auD zx9),.d (auD a),I .i64 3] p):z0y Tryz.prog 26 [.d (auD a)] p:=by
 refine z1r fun H=>?_
 obtain⟨⟨G,C⟩,e,rfl⟩:=hp
 obtain⟨F,A⟩:=a
 refine z0k Tryz.func26 (by kernel_rfl) rfl (by simp) ?_
 dsimp only[Tryz.f26]
 repeat' (first|(apply z07;(first|refine z0r ?_| (apply z0b;(first|refine z02 z2q rfl rfl ?_| refine z02 z1y rfl rfl ?_))|(apply z0s;(refine z1w h ?_))|(apply z0c;(refine z22 ?_))|(apply z0g;(refine z0a z16 ?_))|(apply z1s;(refine z0a z3y ?_))|(apply z10;(refine z23 ?_))|(apply z2o;(refine z2s rfl ?_))))|(apply z08;(first|refine z0p ?_|apply z09))|(apply z05;(first|apply z06|apply z00)))
 all_goals exact z0n Tryz.func26 _ (z1a rfl rfl rfl rfl rfl rfl rfl) ⟨rfl,rfl⟩
end Go.Proofs.YthdfkabdoidjfaaGreatDoor
