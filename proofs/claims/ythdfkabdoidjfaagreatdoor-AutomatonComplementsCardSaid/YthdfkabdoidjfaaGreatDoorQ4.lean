/- A part of the proof: Shb to A29. -/
import Derived.Shelf.Small.Bits
import Derived.Test.YthdfkabdoidjfaaGreatDoorProg
import Derived.Test.YthdfkabdoidjfaaGreatDoorQ1
import Derived.Test.YthdfkabdoidjfaaGreatDoorQy
import Derived.Test.YthdfkabdoidjfaaGreatDoorQs
import Derived.Test.YthdfkabdoidjfaaGreatDoorQc
import Derived.Test.YthdfkabdoidjfaaGreatDoorQq
import Derived.Test.YthdfkabdoidjfaaGreatDoorQ3
set_option linter.all false
namespace Go.Proofs.YthdfkabdoidjfaaGreatDoor
open Go.Proofs
open Go.Shelf
def zjl:Go.Shelf.Ren:=⟨fun|125=>122|128=>136|129=>137|n=>n,fun|46=>163|3=>3|51=>192|53=>76|4=>4|5=>5|9=>9|n=>n,fun|n=>n⟩
theorem zz3:Go.Proofs.Lays.n125 Tryz.prog zjl:={
 mixed:=by kernel_rfl
 f125:=Tryz.func122.trans (congrArg some (by kernel_rfl))
 f128:=Tryz.func136.trans (congrArg some (by kernel_rfl))
 f129:=Tryz.func137.trans (congrArg some (by kernel_rfl))
 t3:=Tryz.underlying3
 a3:=Tryz.isAgg3
 z3:=Tryz.sizeOf3
 v3:=Tryz.zeroValue3
 t4:=Tryz.underlying4
 a4:=Tryz.isAgg4
 z4:=Tryz.sizeOf4
 v4:=Tryz.zeroValue4
 t5:=Tryz.underlying5
 a5:=Tryz.isAgg5
 z5:=Tryz.sizeOf5
 v5:=Tryz.zeroValue5
 t9:=Tryz.underlying9
 a9:=Tryz.isAgg9
 z9:=Tryz.sizeOf9
 v9:=Tryz.zeroValue9
 t46:=Tryz.underlying163
 a46:=Tryz.isAgg163
 z46:=Tryz.sizeOf163
 v46:=Tryz.zeroValue163
 t51:=Tryz.underlying192
 a51:=Tryz.isAgg192
 z51:=Tryz.sizeOf192
 v51:=Tryz.zeroValue192
 t53:=Tryz.underlying76
 a53:=Tryz.isAgg76
 z53:=Tryz.sizeOf76
 v53:=Tryz.zeroValue76 }
theorem bits_Len (x:Int) (w:World) (h0:0≤x) (h1:x≤18446744073709551615) :
 Calls Tryz.prog 122 #[.int .u64 x] w fun e w'=>e=.returned (.int .i64 (Lib.bitLen x.toNat))∧w'=w:=Any.bits_Len zz3 x w h0 h1
end Go.Proofs.YthdfkabdoidjfaaGreatDoor
namespace Go.Proofs.YthdfkabdoidjfaaGreatDoor
open Go.Ab Go.Ax
set_option maxHeartbeats 20000000
set_option maxRecDepth 100000
attribute [local irreducible] Run Ops Op1 z2i Val Tr z0z z27 NF Rel z3r z3s
abbrev rcc (x:Int):List D:=[z1v x]
theorem z2k (a b:Int):z0z Tryz.prog 133 [I .i32 a,I .i32 b] (B (decide (a<b))):=by
 refine z1l fun H=>?_
 have h1:=zfu a
 have h2:=zfu b
 refine z0m Tryz.func133 (by kernel_rfl) rfl (by simp) ?_
 dsimp only[Tryz.f133]
 repeat' (first|(apply z07;(first|refine z0p ?_| (apply z0u;(refine z1o h1 ?_))))|(apply z08;(first|refine z0o ?_|apply z09|refine z1w ?_))|(apply z05;(first|apply z06|apply z00)))
 all_goals try (exfalso;omega)
 all_goals exact z0q Tryz.func133 _ z1e ⟨rfl,rfl⟩
theorem zja {l A B:List Int} {y:Int} {i:Nat} (h:l=A++y::B) (hi:i=A.length):l[i]? =some y:=by subst h hi;simp
theorem zr4 {l A B:List Int} {y z:Int} {i:Nat} (h:l=A++y::B) (hi:i=A.length):l.set i z=A++z::B:=by subst h hi;simp
theorem zmr (P M T:List Int) (a b:Int) (ha:a=P.length) (hb:b=P.length+M.length) (hlen:P.length+M.length≤200000000) :
 z27 Tryz.prog 127 [.ref (0,1000),I .i64 a,I .i64 b] [((0,1000),.row 21 1 ((P++(M++T)).map rcc))] [((0,1000),.row 21 1 ((P++(srt M++T)).map rcc))] (.tup []):=by
 refine z2f fun H hH=>?_
 have hH0:=hH ((0,1000),.row 21 1 ((P++(M++T)).map rcc)) (by simp)
 refine z0m Tryz.func127 (by kernel_rfl) rfl (by simp) ?_
 dsimp only[Tryz.f127]
 refine z2v 1000 0 1000 hH0 rfl rfl ?_
 repeat' (first|(apply z07;(first|refine z0p ?_| (apply z0n;(refine z02 (z0r z0y) rfl rfl ?_))))|(apply z08;(first|refine z0o ?_|apply z09))|(apply z05;(first|apply z06|apply z00|apply z01)))
 all_goals try (exfalso;omega)
 refine z16 ?_
 rw[show P++(M++T)=P++(M.take 1++(M.drop 1++T)) by cases M <;> rfl]
 refine z0c (z1u (fun q:Int × List Int × List Int=>⟨49,[(0,.ref (0,1000)),(1,I .i64 a),(2,I .i64 b),(6,I .i64 q.1),(101000,.al (0,1000) (1,1000))],[(1000,.row 21 1 ((P++(q.2.1++(q.2.2++T))).map rcc))],upd H (0,1000) .gone⟩) (fun q=>(q.2.1++q.2.2).Perm M∧q.2.1.Pairwise (· ≤·)∧((M=[]∧q.1=a+1)∨(0<q.2.1.length∧q.1=a+q.2.1.length))) (fun q=>q.2.2.length) ?_ (a+1,M.take 1,M.drop 1) ⟨by rw[List.take_append_drop],by cases M <;> simp,by cases M with
  | nil=>exact .inl ⟨rfl,rfl⟩
  | cons x M=>exact .inr ⟨by simp,by simp⟩⟩) rfl rfl
 rintro⟨i,A,R⟩ ⟨hp,hasc,hi⟩ ih
 simp only at hp hasc hi ih ⊢
 have hlA:=hp.length_eq
 simp only[zAa] at hlA
 cases R with
 | nil =>
  simp only[List.length_nil] at hlA
  rw[List.append_nil] at hp
  have hib:¬ i<b:=by
   rcases hi with ⟨h0,h⟩|⟨h,h'⟩
   · have:=congrArg List.length h0
     simp only[List.length_nil] at this;omega
   · omega
  rw[zw9 hp.symm hasc]
  repeat' (first|(apply z07;(refine z0p ?_))|(apply z08;(first|refine z0o ?_|apply z09))|(apply z05;(first|apply z06|apply z00|apply z04|apply z01|refine z0f (fun _=>?_) (fun _=>?_)| refine z0h ?_)))
  all_goals try (exfalso;omega)
  refine z4k (raw:=.row 21 1 ((P++(A++([]++T))).map rcc)) 1000 0 1000 ?_
  refine zcx Tryz.func127 _ (z3e rfl) ⟨rfl,?_⟩
  simp[z6o,z36]
 | cons y R =>
  have hi2:i=a+A.length:=by
   rcases hi with ⟨rfl,h⟩|⟨h,h'⟩
   · simp at hlA
   · exact h'
  have hA0:0<A.length:=by
   rcases hi with ⟨rfl,h⟩|⟨h,h'⟩
   · simp at hlA
   · exact h
  simp only[zAk] at hlA
  repeat' (first|(apply z07;(refine z0p ?_))|(apply z08;(first|refine z0o ?_|apply z09))|(apply z05;(first|apply z06|apply z00|apply z04|apply z01|refine z0f (fun _=>?_) (fun _=>?_)| refine z0h ?_)))
  all_goals try (exfalso;omega)
  refine z16 ?_
  rw[show P++(A++(y::R++T))=P++(A++(y::([]++(R++T)))) by simp]
  refine z0c (z1u (fun q:Int × List Int × List Int=>⟨49,[(0,.ref (0,1000)),(1,I .i64 a),(2,I .i64 b),(6,I .i64 i),(7,I .i64 q.1),(101000,.al (0,1000) (1,1000))],[(1000,.row 21 1 ((P++(q.2.1++(y::(q.2.2++(R++T))))).map rcc))],upd H (0,1000) .gone⟩) (fun q=>q.2.1++q.2.2=A∧q.1=a+q.2.1.length∧∀ s∈q.2.2,y≤s) (fun q=>q.2.1.length) ?_ (i,A,[]) ⟨by simp,by simp only;omega,by simp⟩) rfl rfl
  rintro⟨j,S1,S2⟩ ⟨hS,hj,hS2⟩ ih2
  simp only at hS hj hS2 ih2 ⊢
  have hlS:=congrArg List.length hS
  simp only[zAa] at hlS
  have done:(∀ z∈S1,z≤y)→((S1++y::S2)++R).Perm M∧(S1++y::S2).Pairwise (· ≤·):=fun h=>by
   refine⟨.trans ?_ hp,y1n (by rw[hS];exact hasc) h hS2⟩
   rw[← hS]
   have:(S1++y::S2).Perm (S1++S2++[y]):=by
    rw[zAl]
    exact List.Perm.append_left S1 (List.perm_append_singleton y S2).symm
   refine(this.append_right R).trans ?_
   simp
  rcases Go.Ab.zdm S1 with rfl|⟨S1,s,rfl⟩
  · have hja:¬ j>a:=by simp at hj;omega
    obtain⟨d1,d2⟩:=done (by simp)
    have ih':=ih (i+1,[]++y::S2,R) ⟨d1,d2,.inr ⟨by simp,by simp only[zAa,zAk,List.length_nil] at *;omega⟩⟩ (by simp)
    simp only[zAl,List.cons_append] at ih'
    repeat' (first|(apply z07;(first|refine z0p ?_| (apply z0n;(refine z02 (z0r z0y) rfl rfl ?_))))|(apply z08;(first|refine z0o ?_|apply z09))|(apply z05;(first|apply z06|apply z00|refine z0w ?_| apply z23|apply z03|refine z0h ?_))|(apply z25;(first|(apply z0t;refine z1b mix ?_)|refine z1z ?_| refine z29 ?_| (refine z0x rfl rfl (fun hg=>?_) (fun hg=>?_) <;> simp only[hg] <;> (try simp only[zA3,zA5,zA6,zA8] at hg)))))
    all_goals try (exfalso;omega)
    exact z0c ih' rfl rfl
  · simp only[zAa,zAk,List.length_nil] at hj hlS
    have e0:P++(S1++[s]++(y::(S2++(R++T))))=(P++(S1++[s]))++y::(S2++(R++T)):=by simp
    have e1:P++(S1++[s]++(y::(S2++(R++T))))=(P++S1)++s::(y::(S2++(R++T))):=by simp
    have hy:(P++(S1++[s]++(y::(S2++(R++T)))))[j.toNat]? =some y:=zja e0 (by simp;omega)
    have hs:(P++(S1++[s]++(y::(S2++(R++T)))))[(j-1).toNat]? =some s:=zja e1 (by simp;omega)
    have hs1:(P++(S1++[s]++(y::(S2++(R++T))))).set j.toNat s=(P++S1)++s::(s::(S2++(R++T))):=(zr4 e0 (by simp;omega)).trans (by simp)
    have hz:((P++S1)++s::(s::(S2++(R++T))))[(j-1).toNat]? =some s:=zja rfl (by simp;omega)
    have hs2:((P++S1)++s::(s::(S2++(R++T)))).set (j-1).toNat y=P++(S1++(y::(s::S2++(R++T)))):=(zr4 rfl (by simp;omega)).trans (by simp)
    have hc:=z2k y s
    by_cases hsy:y<s
    · rw[zAi hsy] at hc
      have ih':=ih2 (j-1,S1,s::S2) ⟨by rw[← hS];simp,by simp only;omega,fun z hz=>by
       rw[zAc] at hz
       rcases hz with rfl|hz
       · omega
       · exact hS2 z hz⟩ (by simp)
      repeat' (first|(apply z07;(first|refine z0p ?_| (apply z0n;(first|refine z02 (z0r z0y) rfl rfl ?_| refine z02 (z1g z0y) rfl rfl ?_))))|(apply z08;(first|refine z0o ?_|apply z09))|(apply z05;(first|apply z06|apply z00|refine z1d ?_| refine z0w ?_| apply z04|apply z01|apply z23|apply z03|refine z0h ?_))|(apply z25;(first|(apply z0t;refine z1b mix ?_)|refine z1z ?_| refine z29 ?_| (apply z0j;(first|refine z0g (z11 (u:=z1v y) hy) rfl rfl ?_| refine z0g (z11 (u:=z1v s) hs) rfl rfl ?_))|(apply z0l;(refine z0g (z2d rfl (by simp;omega)) rfl rfl ?_))|(apply z1q;(refine z0g (z1g z0y) rfl rfl ?_))|(apply z1k;(refine z4d hc ?_))|(apply z1s;(first|refine z18 s (by first|exact rfl|exact⟨_,rfl,rfl,rfl⟩) rfl rfl rfl rfl hy rfl rfl rfl hs1 ?_|refine z18 y (by first|exact rfl|exact⟨_,rfl,rfl,rfl⟩) rfl rfl rfl rfl hz rfl rfl rfl hs2 ?_))|(refine z0x rfl rfl (fun hg=>?_) (fun hg=>?_) <;> simp only[hg] <;> (try simp only[zA3,zA5,zA6,zA8] at hg)))))
      all_goals try (exfalso;omega)
      exact z0c ih' rfl rfl
    · rw[zAo hsy] at hc
      obtain⟨d1,d2⟩:=done (fun z hz=>by
       have h1:(S1++[s]).Pairwise (· ≤·):=by rw[← hS,List.pairwise_append] at hasc;exact hasc.1
       have:=zu1 h1 z hz
       omega)
      have ih':=ih (i+1,(S1++[s])++y::S2,R) ⟨d1,d2,.inr ⟨by simp only[zAa,zAk];omega,by simp only[zAa,zAk,List.length_nil] at *;omega⟩⟩ (by simp)
      simp only at ih'
      rw[show P++(S1++[s]++y::S2++(R++T))=P++(S1++[s]++(y::(S2++(R++T)))) by simp] at ih'
      repeat' (first|(apply z07;(first|refine z0p ?_| (apply z0n;(refine z02 (z0r z0y) rfl rfl ?_))))|(apply z08;(first|refine z0o ?_|apply z09))|(apply z05;(first|apply z06|apply z00|refine z0w ?_| apply z23|apply z03|refine z0h ?_))|(apply z25;(first|(apply z0t;refine z1b mix ?_)|refine z1z ?_| refine z29 ?_| (apply z0j;(first|refine z0g (z11 (u:=z1v y) hy) rfl rfl ?_| refine z0g (z11 (u:=z1v s) hs) rfl rfl ?_))|(apply z0l;(refine z0g (z2d rfl (by simp;omega)) rfl rfl ?_))|(apply z1q;(refine z0g (z1g z0y) rfl rfl ?_))|(apply z1k;(refine z4d hc ?_))|(refine z0x rfl rfl (fun hg=>?_) (fun hg=>?_) <;> simp only[hg] <;> (try simp only[zA3,zA5,zA6,zA8] at hg)))))
      all_goals try (exfalso;omega)
      exact z0c ih' rfl rfl
theorem zzl (M:List Int) (lim:Int) (hm:M.length≤12):z27 Tryz.prog 121 [.ref (0,1000),I .i64 0,I .i64 M.length,I .i64 lim] [((0,1000),.row 21 1 (M.map rcc))] [((0,1000),.row 21 1 ((srt M).map rcc))] (.tup []):=by
 refine z2f fun H hH=>?_
 have hH0:=hH ((0,1000),.row 21 1 (M.map rcc)) (by simp)
 have hi:=zmr [] M [] 0 M.length rfl (by simp) (by simp;omega)
 rw[List.nil_append,List.append_nil,List.nil_append,List.append_nil] at hi
 refine z0m Tryz.func121 (by kernel_rfl) rfl (by simp) ?_
 dsimp only[Tryz.f121]
 refine z2v 1000 0 1000 hH0 rfl rfl ?_
 repeat' (first|(apply z07;(refine z0p ?_))|(apply z08;(first|refine z0o ?_|apply z09))|(apply z05;(first|apply z06|apply z00|apply z01)))
 refine z16 ?_
 refine z4h ?_
 repeat' (first|(apply z07;(first|refine z0p ?_| (apply z0n;(refine z02 (z1g z0y) rfl rfl ?_))|(apply z0u;(refine z3z hi rfl rfl (by decide) ?_))))|(apply z08;(first|refine z0o ?_|apply z09))|(apply z05;(first|apply z06|apply z00|refine z0w ?_| apply z04|apply z01|refine z0f (fun _=>?_) (fun _=>?_))))
 all_goals try (exfalso;omega)
 refine z4k (raw:=.row 21 1 ((srt M).map rcc)) 1000 0 1000 ?_
 refine z0q Tryz.func121 _ (z3e rfl) ⟨rfl,?_⟩
 simp[z6o,z36]
theorem zdw (x:Int) (h0:0≤x) (h1:x≤18446744073709551615):z0z Tryz.prog 122 [I .u64 x] (I .i64 (Lib.bitLen x.toNat)):=by
 refine zb4 ⟨_,Tryz.func122,by kernel_rfl,by kernel_rfl⟩ fun β own w vals hA=>?_
 obtain⟨hl,ha⟩:=hA
 obtain⟨v,rfl⟩:∃ v,vals=[v]:=by
  match vals,hl with
  | [v],_=>exact⟨v,rfl⟩
 have hv:=PR.lit (ha 0 _ v rfl rfl)
 subst hv
 exact⟨_,bits_Len x w h0 h1,fun w' own'=>PR.I _ _⟩
theorem ztl (M:List Int) (hm:M.length≤12):z27 Tryz.prog 106 [.ref (0,1000)] [((0,1000),.row 21 1 (M.map rcc))] [((0,1000),.row 21 1 ((srt M).map rcc))] (.tup []):=by
 refine z2f fun H hH=>?_
 have hH0:=hH ((0,1000),.row 21 1 (M.map rcc)) (by simp)
 have hb:=zdw M.length (by omega) (by omega)
 have hp:=zzl M (Lib.bitLen ((M.length:Int)).toNat) hm
 exact zD33
theorem zhv {l:List Int} {k:Nat} {x:Int} (h:l[k]? =some x):l.take (k+1)=l.take k++[x]:=by
 rw[List.take_add_one,h];rfl
theorem z98 {α:Type}:∀ (l zs:List α) (k:Nat),(z1f l k zs).take k=l.take k
 | [],[],k=>by simp[Ab.z1f]
 | [],z::zs,k=>by simp[Ab.z1f]
 | x::l,[],k=>by simp[Ab.z1f]
 | x::l,z::zs,0=>by simp
 | x::l,z::zs,k+1=>by
  have:z1f (x::l) (k+1) (z::zs)=x::z1f l k (z::zs):=by simp[Ab.z1f]
  rw[this,List.take_succ_cons,List.take_succ_cons,z98 l (z::zs) k]
theorem zaw {α β:Type} (g:α→β):∀ (l zs:List α) (k:Nat),z1f (l.map g) k (zs.map g)=(z1f l k zs).map g
 | [],[],k=>by simp[Ab.z1f]
 | [],z::zs,k=>by simp[Ab.z1f]
 | x::l,[],k=>by simp[Ab.z1f]
 | x::l,z::zs,0=>by
  have:=zaw g l zs 0
  simp only[List.map_cons] at this ⊢
  simp[Ab.z1f,this]
 | x::l,z::zs,k+1=>by
  have:=zaw g l (z::zs) k
  simp only[List.map_cons] at this ⊢
  simp[Ab.z1f,this]
theorem y34 {l m:List Int} {i:Nat} (h:l.drop i=m.drop i):l.drop (i+1)=m.drop (i+1):=by
 have:=congrArg (List.drop 1) h
 simpa[List.drop_drop] using this
theorem zqb (l:List Int) (hl:l.length≤200000000):z27 Tryz.prog 107 [.ref (0,1000)] [((0,1000),.row 21 1 (l.map rcc))] [((0,1000),.gone)] (.d (.slice ((cpt l).map rcc))):=by
 refine z2f fun H hH=>?_
 have hH0:=hH ((0,1000),.row 21 1 (l.map rcc)) (by simp)
 refine z0m Tryz.func107 (by kernel_rfl) rfl (by simp) ?_
 dsimp only[Tryz.f107]
 refine z2v 1000 0 1000 hH0 rfl rfl ?_
 have fin:∀ {n:Nat} {tm:List (Nat × PV)} {hp:Hp} (q:List (List D)),q=(cpt l).map rcc→Ab.look tm 2=some (.d (.slice q))→Ab.look hp 1000=some .gone→True:=fun _ _ _ _=>trivial
 clear fin
 by_cases hs:l.length<2
 · have e1:cpt l=l:=by
    match l,hs with
    | [],_=>rfl
    | [x],_=>rfl
   rw[e1]
   repeat' (first|(apply z07;(first|refine z0p ?_| (apply z14;(refine z02 (z1h rfl) rfl rfl ?_))))|(apply z08;(first|refine z0o ?_|apply z09))|(apply z05;(first|apply z06|apply z00|apply z04|apply z01|refine z0f (fun _=>?_) (fun _=>?_))))
   all_goals try (exfalso;omega)
   refine z1r 1000 rfl ?_
   exact z0q Tryz.func107 _ z1e ⟨rfl,rfl⟩
 obtain⟨x0,hx0⟩:∃ x,l[0]? =some x:=⟨_,zA0 (by omega)⟩
 have hstart:cpt l=l.take 1++cq x0 (l.drop 1):=by
  cases l with
  | nil=>simp at hx0
  | cons x l=>simp at hx0;subst hx0;rfl
 repeat' (first|(apply z07;(first|refine z0p ?_| (apply z14;(refine z02 (z1h rfl) rfl rfl ?_))))|(apply z08;(first|refine z0o ?_|apply z09))|(apply z05;(first|apply z06|apply z00|apply z04|apply z01|refine z0f (fun _=>?_) (fun _=>?_))))
 all_goals try (exfalso;omega)
 refine z16 ?_
 refine z0c (z1u (fun q:Nat=>⟨61,[(0,.ref (0,1000)),(3,I .i64 ((q:Nat)+1:Int)),(101000,.al (0,1000) (1,1000))],[(1000,.row 21 1 (l.map rcc))],upd H (0,1000) .gone⟩) (fun q=>q+1≤l.length∧∃ x,l[q]? =some x∧cpt l=l.take (q+1)++cq x (l.drop (q+1))) (fun q=>l.length-q) ?_ 0 ⟨by omega,x0,hx0,hstart⟩) rfl rfl
 rintro k ⟨k1,x,hx,k2⟩ ih
 by_cases hlt:k+1<l.length
 · obtain⟨y,hy⟩:∃ y,l[k+1]? =some y:=⟨_,zA0 hlt⟩
   have hyi:l[((((k:Nat):Int)+1)).toNat]? =some y:=by rw[show (((k:Nat):Int)+1).toNat=k+1 by omega];exact hy
   have hxi:l[((((k:Nat):Int)+1)-1).toNat]? =some x:=by rw[show ((((k:Nat):Int)+1)-1).toNat=k by omega];exact hx
   rw[drop_cons hy,cq] at k2
   by_cases he:x=y
   · rw[zAz he] at k2
     have hsub:((((k:Nat):Int)+1)).toNat=k+1:=by omega
     clear ih
     repeat' (first|(apply z07;(first|refine z0p ?_| (apply z0n;(refine z02 (z0r z0y) rfl rfl ?_))|(apply zk4;(refine z02 (zh2 rfl (by omega) (by simp only[zA4];omega) rfl) rfl rfl ?_))|(apply z14;(refine z02 (z1h rfl) rfl rfl ?_))))|(apply z08;(first|refine z0o ?_|apply z09))|(apply z05;(first|apply z06|apply z00|apply z04|apply z01|apply z23|apply z03|refine z0f (fun _=>?_) (fun _=>?_)| refine z0h ?_))|(apply z25;(first|(apply z0t;refine z1b mix ?_)|refine z29 ?_| (apply z0j;(first|refine z0g (z11 (u:=z1v y) hyi) rfl rfl ?_| refine z0g (z11 (u:=z1v x) hxi) rfl rfl ?_))|(apply z0l;(refine z0g (z2d rfl (by simp only[zA4];omega)) rfl rfl ?_))|(apply z1q;(refine z0g (z1g z0y) rfl rfl ?_)))))
     all_goals try (exfalso;omega)
     refine z16 ?_
     have hln:(l.map rcc).length-((((k:Nat):Int)+1)).toNat=l.length-(k+1):=by rw[zA4,hsub]
     refine z0c (z1u (fun q:Nat × Nat × List Int=>⟨61,[(0,.ref (0,1000)),(3,I .i64 (q.1:Nat)),(4,.rsub (0,1000) 1 ((((k:Nat):Int)+1)).toNat ((l.map rcc).length-((((k:Nat):Int)+1)).toNat)),(5,I .i64 (q.2.1:Nat)),(101000,.al (0,1000) (1,1000))],[(1000,.row 21 1 (q.2.2.map rcc))],upd H (0,1000) .gone⟩) (fun q=>q.2.2.length=l.length∧k+1≤q.1∧q.1+1≤k+1+q.2.1∧1≤q.2.1∧k+1+q.2.1≤l.length∧q.2.2.drop (k+q.2.1)=l.drop (k+q.2.1)∧∃ z,l[k+q.2.1]? =some z∧cpt l=q.2.2.take q.1++cq z (l.drop (k+1+q.2.1))) (fun q=>l.length-q.2.1) ?_ (k+1,1,l) ⟨rfl,zAj _,by simp only;omega,zAj _,by simp only;omega,rfl,y,hy,k2⟩) rfl rfl
     rintro⟨a,b,r⟩ ⟨r1,r2,r3,r4,r5,r6,z,hz,r7⟩ ih
     simp only at r1 r2 r3 r4 r5 r6 hz r7 ih ⊢
     have hget:∀ i,k+b≤i→r[i]? =l[i]?:=fun i hi=>by
      have:=congrArg (fun m=>m[i-(k+b)]?) r6
      simp only[List.getElem?_drop] at this
      rwa [show k+b+(i-(k+b))=i by omega] at this
     by_cases hlb:k+1+b<l.length
     · obtain⟨u,hu⟩:∃ u,l[k+1+b]? =some u:=⟨_,zA0 hlb⟩
       have hui:r[((((k:Nat):Int)+1)).toNat+((b:Nat):Int).toNat]? =some u:=by rw[hsub,zA9,hget _ (by omega)];exact hu
       have hzi:r[((((k:Nat):Int)+1)).toNat+(((b:Nat):Int)-1).toNat]? =some z:=by rw[hsub,show k+1+(((b:Nat):Int)-1).toNat=k+b by omega,hget _ (by omega)];exact hz
       rw[drop_cons hu,cq] at r7
       have hai:∃ v,r[((a:Nat):Int).toNat]? =some v:=⟨_,zA0 (by omega)⟩
       obtain⟨v,hv⟩:=hai
       by_cases hzu:z=u
       · rw[zAz hzu] at r7
         have ih':=ih (a,b+1,r) ⟨r1,r2,by simp only;omega,by simp only;omega,by simp only;omega,by simp only;rw[← Nat.add_assoc];exact y34 r6,u,by rw[show k+(b+1)=k+1+b by omega];exact hu,by simp only;rw[r7,show k+1+(b+1)=k+1+b+1 by omega]⟩ (by simp only;omega)
         repeat' (first|(apply z07;(first|refine z0p ?_| (apply z0a;(refine z02 (z11 (u:=z1v u) hui) rfl rfl ?_))|(apply z0i;(refine z02 (zam rfl (by omega) (by rw[hln];omega) (by rw[hln,hsub,zA4,r1];omega) rfl) rfl rfl ?_))|(apply z0n;(refine z02 (z0r z0y) rfl rfl ?_))|(apply z14;(refine z02 (zfw rfl) rfl rfl ?_))))|(apply z08;(first|refine z0o ?_|apply z09))|(apply z05;(first|apply z06|apply z00|apply z04|apply z01|apply z23|apply z03|refine z0f (fun _=>?_) (fun _=>?_)| refine z4i rfl (fun _=>?_) (fun _=>?_)|refine z0h ?_))|(apply z25;(first|(apply z0t;refine z1b mix ?_)|refine z29 ?_| (apply z0j;(first|refine z0g (z11 (u:=z1v u) hui) rfl rfl ?_| refine z0g (z11 (u:=z1v z) hzi) rfl rfl ?_))|(apply z0l;(refine z0g (zam rfl (by omega) (by rw[hln];omega) (by rw[hln,hsub,zA4,r1];omega) rfl) rfl rfl ?_))|(apply z1q;(refine z0g (z1g z0y) rfl rfl ?_)))))
         all_goals exact zD6
       · rw[zAy hzu] at r7
         have hset:r.set ((a:Nat):Int).toNat u=r.set a u:=by rw[zA9]
         have ih':=ih (a+1,b+1,r.set a u) ⟨by simp[r1],by simp only;omega,by simp only;omega,by simp only;omega,by simp only;omega,by
          simp only
          rw[List.drop_set_of_lt (by omega),← Nat.add_assoc];exact y34 r6,u,by rw[show k+(b+1)=k+1+b by omega];exact hu,by
          simp only
          rw[zhv (x:=u) (by rw[zAp (by omega)]),List.take_set_of_le (zAj _),r7,show k+1+(b+1)=k+1+b+1 by omega]
          simp⟩ (by simp only;omega)
         repeat' (first|(apply z07;(first|refine z0p ?_| (apply z0a;(refine z02 (z11 (u:=z1v u) hui) rfl rfl ?_))|(apply z0i;(first|refine z02 (z2d rfl (by simp only[zA4];omega)) rfl rfl ?_| refine z02 (zam rfl (by omega) (by rw[hln];omega) (by rw[hln,hsub,zA4,r1];omega) rfl) rfl rfl ?_))|(apply z0n;(refine z02 (z0r z0y) rfl rfl ?_))|(apply z14;(refine z02 (zfw rfl) rfl rfl ?_))|(apply z0d;(refine z4g u hv hset ?_))))|(apply z08;(first|refine z0o ?_|apply z09))|(apply z05;(first|apply z06|apply z00|apply z04|apply z01|apply z23|apply z03|refine z0f (fun _=>?_) (fun _=>?_)| refine z4i rfl (fun _=>?_) (fun _=>?_)|refine z0h ?_))|(apply z25;(first|(apply z0t;refine z1b mix ?_)|refine z29 ?_| (apply z0j;(first|refine z0g (z11 (u:=z1v u) hui) rfl rfl ?_| refine z0g (z11 (u:=z1v z) hzi) rfl rfl ?_))|(apply z0l;(refine z0g (zam rfl (by omega) (by rw[hln];omega) (by rw[hln,hsub,zA4,r1];omega) rfl) rfl rfl ?_))|(apply z1q;(refine z0g (z1g z0y) rfl rfl ?_)))))
         all_goals exact zD6
     · have hbe:k+1+b=l.length:=by omega
       rw[List.drop_eq_nil_of_le (by omega),cq,List.append_nil] at r7
       have hspl:z1f (r.map rcc) ((a:Nat):Int).toNat (List.replicate ((r.map rcc).length-((a:Nat):Int).toNat) [.lit (.int .i32 0)])=(z1f r a (List.replicate (r.length-a) 0)).map rcc:=by
        rw[zA9,zA4,show ([.lit (.int .i32 0)]:List D)=rcc 0 from rfl,← List.map_replicate,zaw]
       have hres:(z1f r a (List.replicate (r.length-a) 0)).take ((a:Nat):Int).toNat=cpt l:=by
        rw[zA9,z98,← r7]
       have hlen2:(z1f r a (List.replicate (r.length-a) 0)).length=r.length:=z1t _ _ _
       generalize z1f r a (List.replicate (r.length-a) 0)=r2 at *
       repeat' (first|(apply z07;(first|(refine zzi (e:=21) (z0:=.int .i32 0) rfl (z2p (by kernel_rfl)) rfl rfl rfl (by simp only[zA4];omega) ?_;rw[hspl];refine zcf 1000 rfl ?_)|refine z0p ?_| (apply zk4;(first|refine z02 (zh2 rfl (by omega) (by simp only[zA4];omega) rfl) rfl rfl ?_| refine z02 (z8d (g:=rcc) rfl (by omega) (by omega) (fun _=>rfl)) rfl rfl ?_))|(apply z14;(refine z02 (zfw rfl) rfl rfl ?_))))|(apply z08;(first|refine z0o ?_|apply z09))|(apply z05;(first|apply z06|apply z00|apply z04|apply z01|apply z23|refine z0f (fun _=>?_) (fun _=>?_)| refine z0h ?_))|(apply z25;(refine z29 ?_)))
       all_goals try (exfalso;rw[hln] at *;omega)
       all_goals (rw[← hres];exact z0q Tryz.func107 _ z1e ⟨rfl,rfl⟩)
   · rw[zAy he] at k2
     have ih':=ih (k+1) ⟨by omega,y,hy,by rw[zhv hy,k2];simp⟩ (by omega)
     repeat' (first|(apply z07;(first|refine z0p ?_| (apply z0n;(refine z02 (z0r z0y) rfl rfl ?_))|(apply z14;(refine z02 (z1h rfl) rfl rfl ?_))))|(apply z08;(first|refine z0o ?_|apply z09))|(apply z05;(first|apply z06|apply z00|apply z04|apply z01|apply z23|apply z03|refine z0f (fun _=>?_) (fun _=>?_)| refine z0h ?_))|(apply z25;(first|(apply z0t;refine z1b mix ?_)|refine z29 ?_| (apply z0j;(first|refine z0g (z11 (u:=z1v y) hyi) rfl rfl ?_| refine z0g (z11 (u:=z1v x) hxi) rfl rfl ?_))|(apply z0l;(refine z0g (z2d rfl (by simp only[zA4];omega)) rfl rfl ?_))|(apply z1q;(refine z0g (z1g z0y) rfl rfl ?_)))))
     all_goals exact zD6
 · have hke:k+1=l.length:=by omega
   rw[hke,zAs,cq,List.append_nil,List.take_length] at k2
   rw[k2]
   repeat' (first|(apply z07;(first|refine z0p ?_| (apply z14;(refine z02 (z1h rfl) rfl rfl ?_))))|(apply z08;(first|refine z0o ?_|apply z09))|(apply z05;(first|apply z06|apply z00|apply z04|apply z01|apply z23|refine z0f (fun _=>?_) (fun _=>?_)| refine z0h ?_))|(apply z25;(refine z29 ?_)))
   all_goals try (exfalso;omega)
   refine z1r 1000 rfl ?_
   exact z0q Tryz.func107 _ z1e ⟨rfl,rfl⟩
open Go.Ab Go.Ax Go.Rx
def zbr (n:Nat):Prop:=∀ M:List Int,M.length≤n→z27 Tryz.prog 106 [.ref (0,1000)] [((0,1000),.row 21 1 (M.map rcc))] [((0,1000),.row 21 1 ((srt M).map rcc))] (.tup [])
theorem zmk:zbr 12:=fun M h=>ztl M h
def ends (r:List Rg):List Int:=r.flatMap fun x=>[x.1,x.2+1]
def z55 (L:List (List Rg)):List Int:=[0,1114112]++L.flatMap ends
def z96 (L:List (List Rg)):List Int:=cpt (srt (z55 L))
theorem zw2 {N:Nat} (hS:zbr N) (L:List (List Rg)) (hN:(z55 L).length≤N) (hN2:N≤200000000) (hr:∀ r∈L,∀ x∈r,0≤x.1∧x.1≤1114111∧0≤x.2∧x.2≤1114111) (hl:L.length≤200000000) (hl2:∀ r∈L,r.length≤200000000) :
 z0z Tryz.prog 61 [.d (lvs L)] (.d (.slice ((z96 L).map rcc))):=by
 refine z1l fun H=>?_
 have hss:=hS (z55 L) hN
 have hcc:=zqb (srt (z55 L)) (by rw[zjk];omega)
 refine z0m Tryz.func61 (by kernel_rfl) rfl (by simp) ?_
 dsimp only[Tryz.f61]
 repeat' (first|(apply z07;(first|refine z0p ?_| (apply z14;(refine z02 (z1j rfl) rfl rfl ?_))|(apply z2h;(refine zbl rfl rfl rfl rfl rfl rfl rfl rfl rfl (by decide) ?_))))|(apply z08;(first|refine z0o ?_|apply z09))|(apply z05;(first|apply z06|apply z00|apply z01)))
 refine z2a 8 1000 ?_
 refine z16 ?_
 refine z0c (z1u (fun q:Nat × List Int=>⟨35,[(3,.ref (0,1000)),(9,.d (lvs L)),(10,I .i64 L.length),(11,I .i64 (q.1:Nat))],[(1000,.row 21 1 (q.2.map rcc))],H⟩) (fun q=>q.1≤L.length∧q.2++(L.drop q.1).flatMap ends=z55 L) (fun q=>L.length-q.1) ?_ (0,[0,1114112]) ⟨zAf _,rfl⟩) rfl rfl
 rintro⟨i,acc⟩ ⟨i1,i2⟩ ih
 simp only at i1 i2 ih ⊢
 by_cases hlt:i<L.length
 · obtain⟨r,hri⟩:∃ r,L[i]? =some r:=⟨_,zA0 hlt⟩
   have hrm:=zA2 hri
   have hrr:=hr r hrm
   have hrl:=hl2 r hrm
   rw[drop_cons hri,List.flatMap_cons] at i2
   repeat' (first|(apply z07;(first|refine z0p ?_| (apply z0a;(refine z02 z22 rfl rfl ?_))|(apply z0i;(refine z02 (z0v (ys:=L.map fun r=>[rgs r]) rfl (idx (g:=fun r=>[rgs r]) hri)) rfl rfl ?_))|(apply z14;(refine z02 (z1j rfl) rfl rfl ?_))))|(apply z08;(first|refine z0o ?_|apply z09))|(apply z05;(first|apply z06|apply z00|apply z04|apply z01|refine z0f (fun _=>?_) (fun _=>?_)| refine z0h ?_)))
   all_goals try (exfalso;omega)
   refine z16 ?_
   refine z0c (z1u (fun q:Nat × List Int=>⟨35,[(3,.ref (0,1000)),(9,.d (lvs L)),(10,I .i64 L.length),(11,I .i64 (i:Nat)),(15,.d (rgs r)),(16,I .i64 r.length),(17,I .i64 (q.1:Nat))],[(1000,.row 21 1 (q.2.map rcc))],H⟩) (fun q=>q.1≤r.length∧q.2++(ends (r.drop q.1)++(L.drop (i+1)).flatMap ends)=z55 L) (fun q=>r.length-q.1) ?_ (0,acc) ⟨zAf _,i2⟩) rfl rfl
   rintro⟨j,acc2⟩ ⟨j1,j2⟩ ihj
   simp only at j1 j2 ihj ⊢
   by_cases hj:j<r.length
   · obtain⟨x,hx⟩:∃ x,r[j]? =some x:=⟨_,zA0 hj⟩
     obtain⟨x1,x2,x3,x4⟩:=hrr x (zA2 hx)
     have ha2:acc2.length≤N:=by have:=congrArg List.length j2;rw[zAa] at this;omega
     rw[drop_cons hx,ends,List.flatMap_cons,← ends] at j2
     have ihj':=ihj (j+1,acc2++[x.1,x.2+1]) ⟨by simp only;omega,by simp only;rw[← j2];simp⟩ (by simp only;omega)
     repeat' (first|(apply z07;(first|refine z0p ?_| (apply z0a;(first|refine z02 z1m rfl rfl ?_| refine z02 z2o rfl rfl ?_))|(apply z0e;(refine z02 z0s rfl rfl ?_))|(apply z0i;(refine z02 (z0v (ys:=r.map rgc) rfl (idx (g:=rgc) hx)) rfl rfl ?_))|(apply z0n;(first|refine z02 (z0r (z9j (by omega) (by omega))) rfl rfl ?_| refine z02 (z0r z0y) rfl rfl ?_))|(apply z14;(refine zwr (g:=rcc) (r:=[x.1,x.2+1]) rfl rfl rfl rfl rfl (fun _=>rfl) rfl rfl (by decide) (by simp;omega) ?_))|(apply z0d;(refine z2g ?_))|(apply z0k;(refine z0b z2q ?_))|(apply z2h;(refine z2n rfl ?_))))|(apply z08;(first|refine z0o ?_|apply z09))|(apply z05;(first|apply z06|apply z00|apply z04|apply z01|apply z03|refine z0f (fun _=>?_) (fun _=>?_)| refine z0h ?_)))
     all_goals try (exfalso;omega)
     all_goals refine z2a 28 1000 ?_
     all_goals exact z0c ihj' rfl rfl
   · obtain rfl:j=r.length:=by omega
     rw[zAs,ends,List.flatMap_nil,List.nil_append] at j2
     have ih':=ih (i+1,acc2) ⟨by simp only;omega,j2⟩ (by simp only;omega)
     all_goals exact zD19
 · obtain rfl:i=L.length:=by omega
   rw[zAs,List.flatMap_nil,List.append_nil] at i2
   subst i2
   repeat' (first|(apply z07;(first|refine z0p ?_| (apply z0u;(first|refine z3z hss rfl rfl (by decide) ?_|refine z3z hcc rfl rfl (by decide) ?_))))|(apply z08;(first|refine z0o ?_|apply z09))|(apply z05;(first|apply z06|apply z00|apply z04|apply z01|refine z0f (fun _=>?_) (fun _=>?_)| refine z0h ?_)))
   all_goals try (exfalso;omega)
   all_goals exact z0q Tryz.func61 _ z1e ⟨rfl,rfl⟩
def okP (n m:Nat) (k:Int × Int):Prop:=-1≤k.1∧k.1<n∧-1≤k.2∧k.2<m
abbrev bsP (F G:List Bool) (A C:List (List Arc)) (op:Int):List (Nm × Blk):=[((1,3),BX F A),((1,4),BX G C),((1,5),.box [I .i64 op])]
theorem zzt (F G:List Bool) (A C:List (List Arc)) (op:Int) (k:Int × Int) (hk:okP F.length G.length k):z27 Tryz.prog 94 [pcP k,.ptr (1,5) 0,.ptr (1,3) 0,.ptr (1,4) 0] (bsP F G A C op) [] (B (z9e op ((⟨F,A⟩:Au).fin k.1) ((⟨G,C⟩:Au).fin k.2))):=by
 refine z2f fun H hH=>?_
 have h3:H 1 3=some (BX F A):=hH ((1,3),BX F A) (by simp)
 have h4:H 1 4=some (BX G C):=hH ((1,4),BX G C) (by simp)
 have h5:H 1 5=some (.box [I .i64 op]):=hH ((1,5),.box [I .i64 op]) (by simp)
 have hf1:=zgu ⟨F,A⟩ k.1 hk.2.1
 have hf2:=zgu ⟨G,C⟩ k.2 hk.2.2.2
 have hc:=zsi op ((⟨F,A⟩:Au).fin k.1) ((⟨G,C⟩:Au).fin k.2)
 generalize (⟨F,A⟩:Au).fin k.1=x at *
 generalize (⟨G,C⟩:Au).fin k.2=y at *
 refine z0m Tryz.func94 (by kernel_rfl) rfl (by simp) ?_
 dsimp only[Tryz.f94]
 repeat' (first|(apply z07;(first|refine z0p ?_| (apply z1y;(refine z0b z2e ?_))))|(apply z08;(first|refine z0o ?_|apply z09))|(apply z05;(first|apply z06|apply z00|apply z23))|(apply z25;(first|(apply z0t;refine z1b mix ?_)|refine z29 ?_| (apply z0j;(first|refine z0g (z3k (b:=BX G C) (cs:=auc ⟨G,C⟩)) rfl (bkN h4) ?_| refine z0g (z3k (b:=BX F A) (cs:=auc ⟨F,A⟩)) rfl (bkN h3) ?_| refine zbk (by first|exact rfl|exact⟨_,rfl,rfl,rfl⟩) rfl h5 rfl rfl rfl rfl (by decide) ?_|refine z0g z1m rfl rfl ?_))|(apply z13;(refine z0g z0s rfl rfl ?_))|(apply z1k;(first|refine z4d hf1 ?_| refine z4d hf2 ?_| refine z4d hc ?_)))))
 all_goals exact z0q Tryz.func94 _ z1e ⟨rfl,rfl⟩
def prE (op:Int) (l m:List Arc) (pts:List Int) (i:Nat):Option (Go.Ax.Edge (Int × Int)) :=
 if zea op (nxt l (pts.getD i 0)) (nxt m (pts.getD i 0))=true then none else some (pts.getD i 0,pts.getD (i+1) 0-1,(nxt l (pts.getD i 0),nxt m (pts.getD i 0)))
def z4x (l m:List Arc):List Int:=z96 [z4e l,z4e m]
def z6k (op:Int) (l m:List Arc):List (Go.Ax.Edge (Int × Int)):=(List.range ((z4x l m).length-1)).filterMap (prE op l m (z4x l m))
theorem z5l {α β:Type} (f:α→Option β) (l:List α):(l.filterMap f).length≤l.length:=List.length_filterMap_le f l
theorem zlz (L:List (List Rg)):1≤(z96 L).length:=by
 have h:=(zg0 (Go.Ax.zb3 (z55 L))).2 0
 have:(0:Int)∈z96 L:=by
  rw[z96,h]
  exact(Go.Ax.z8r _).mem_iff.2 (by simp[z55])
 exact List.length_pos_of_mem this
theorem zal {L:List (List Rg)} (hr:∀ r∈L,∀ x∈r,0≤x.1∧x.1≤1114111∧0≤x.2∧x.2≤1114111):∀ z∈z96 L,0≤z∧z≤1114112:=fun z hz=>by
 rw[z96,(zg0 (Go.Ax.zb3 (z55 L))).2 z,(Go.Ax.z8r _).mem_iff,z55,zAt] at hz
 rcases hz with hz|hz
 · simp at hz;omega
 · rw[List.mem_flatMap] at hz
   obtain⟨r,hrr,hz⟩:=hz
   rw[ends,List.mem_flatMap] at hz
   obtain⟨x,hx,hz⟩:=hz
   have:=hr r hrr x hx
   simp at hz;omega
theorem zmb:∀ r:List Rg,(ends r).length=2*r.length
 | []=>rfl
 | x::r=>by rw[ends,List.flatMap_cons,zAa,← ends,zmb r];simp only[zAk,List.length_nil];omega
theorem zzv {N:Nat} (hS:zbr N) (hN:N≤200000000) (F G:List Bool) (A C:List (List Arc)) (op:Int) (hA:zcm F A) (hC:zcm G C) (k:Int × Int) (hk:okP F.length G.length k)
 (hsz:2+2*((⟨F,A⟩:Au).arcs k.1).length+2*((⟨G,C⟩:Au).arcs k.2).length≤N) :
 z27 Tryz.prog 97 [pcP k,.ptr (1,3) 0,.ptr (1,4) 0,.ptr (1,5) 0] (bsP F G A C op) [] (.d (.slice ((z6k op ((⟨F,A⟩:Au).arcs k.1) ((⟨G,C⟩:Au).arcs k.2)).map ped))):=by
 refine z2f fun H hH=>?_
 have h3:H 1 3=some (BX F A):=hH ((1,3),BX F A) (by simp)
 have h4:H 1 4=some (BX G C):=hH ((1,4),BX G C) (by simp)
 have h5:H 1 5=some (.box [I .i64 op]):=hH ((1,5),.box [I .i64 op]) (by simp)
 have hf1:=zle ⟨F,A⟩ k.1 (by have:=hA.len;have:=hk.2.1;simp only;omega)
 have hf2:=zle ⟨G,C⟩ k.2 (by have:=hC.len;have:=hk.2.2.2;simp only;omega)
 have arcP:∀ {F:List Bool} {A:List (List Arc)},zcm F A→∀ q:Int,okA none ((⟨F,A⟩:Au).arcs q)∧((⟨F,A⟩:Au).arcs q).length≤2000000∧∀ x∈(⟨F,A⟩:Au).arcs q,0≤x.1∧x.1≤x.2.1∧x.2.1≤1114111:=fun {F A} hA q=>by
  rw[Au.arcs]
  split
  · exact⟨trivial,by simp,by simp⟩
  · cases hq:A[q.toNat]? with
    | none=>rw[List.getD,hq];exact⟨trivial,by simp,by simp⟩
    | some l =>
     rw[List.getD,hq]
     obtain⟨a1,a2,a3⟩:=hA.arc l (zA2 hq)
     exact⟨a1,a2,fun x hx=>by have:=a3 x hx;omega⟩
 obtain⟨l0,l1,l2⟩:=arcP hA k.1
 obtain⟨m0,m1,m2⟩:=arcP hC k.2
 generalize (⟨F,A⟩:Au).arcs k.1=l at *
 generalize (⟨G,C⟩:Au).arcs k.2=m at *
 have hr1:=zew l l1
 have hr2:=zew m m1
 have hrr:∀ r∈[z4e l,z4e m],∀ x∈r,0≤x.1∧x.1≤1114111∧0≤x.2∧x.2≤1114111:=fun r hr x hx=>by
  simp only[zAc,List.not_mem_nil,or_false] at hr
  rcases hr with rfl|rfl
  · simp only[z4e,List.mem_map] at hx;obtain⟨y,hy,rfl⟩:=hx;have:=l2 y hy;simp only;omega
  · simp only[z4e,List.mem_map] at hx;obtain⟨y,hy,rfl⟩:=hx;have:=m2 y hy;simp only;omega
 have hll:(z4e l).length=l.length:=by simp[z4e]
 have hml:(z4e m).length=m.length:=by simp[z4e]
 have hel:(z55 [z4e l,z4e m]).length=2+2*l.length+2*m.length:=by
  simp[z55,zmb,hll,hml];omega
 have hcuts:=zw2 hS [z4e l,z4e m] (by omega) hN hrr (by simp) (fun r hr=>by simp only[zAc,List.not_mem_nil,or_false] at hr;rcases hr with rfl|rfl <;> omega)
 have hpr:=zal hrr
 have hpl:=zlz [z4e l,z4e m]
 have hpl2:(z96 [z4e l,z4e m]).length≤200000000:=by have:=zrd (Go.Ax.srt (z55 [z4e l,z4e m]));rw[Go.Ax.zjk,hel] at this;rw[z96];omega
 have hst1:=fun c:Int=>zs9 l (by omega) l0 c
 have hst2:=fun c:Int=>zs9 m (by omega) m0 c
 have hus:=zp2 op
 have hEq:z6k op l m=(List.range ((z4x l m).length-1)).filterMap (prE op l m (z4x l m)):=rfl
 rw[hEq]
 change z0z Tryz.prog 61 [.d (lvs [z4e l,z4e m])] (.d (.slice ((z4x l m).map rcc))) at hcuts
 change ∀ z∈z4x l m,0≤z∧z≤1114112 at hpr
 change 1≤(z4x l m).length at hpl
 change (z4x l m).length≤200000000 at hpl2
 generalize z4x l m=pts at *
 clear hEq
 refine z0m Tryz.func97 (by kernel_rfl) rfl (by simp) ?_
 dsimp only[Tryz.f97]
 repeat' (first|(apply z07;(first|refine z0p ?_| (apply z0n;(refine z02 (z1g z0y) rfl rfl ?_))|(apply z14;(refine z02 (z1j rfl) rfl rfl ?_))|(apply z0u;(first|refine z1o hr1 ?_| refine z1o hr2 ?_| refine z1o hcuts ?_))|(apply z1y;(refine z0b z2e ?_))|(apply z2h;(refine z2n rfl ?_))))|(apply z08;(first|refine z0o ?_|apply z09))|(apply z05;(first|apply z06|apply z00|apply z01|apply z23))|(apply z25;(first|(apply z0t;refine z1b mix ?_)|refine z29 ?_| (apply z0j;(first|refine z0g (z3k (b:=BX G C) (cs:=auc ⟨G,C⟩)) rfl (bkN h4) ?_| refine z0g (z3k (b:=BX F A) (cs:=auc ⟨F,A⟩)) rfl (bkN h3) ?_| refine z0g z1m rfl rfl ?_))|(apply z13;(refine z0g z0s rfl rfl ?_))|(apply z1k;(first|refine z4d hf1 ?_| refine z4d hf2 ?_)))))
 all_goals try (exfalso;omega)
 refine z2r 9 1001 146 4 rfl rfl rfl ?_
 refine z16 ?_
 refine z0c (z1u (fun q:Nat=>⟨66,[(3,.ptr (2,5) 0),(6,.d (z9o l)),(7,.d (z9o m)),(8,.d (.slice (pts.map rcc))),(9,.ref (0,1001)),(28,I .i64 ((pts.length:Int)-1)),(29,I .i64 (q:Nat))],[(1001,.row 146 4 (((List.range q).filterMap (prE op l m pts)).map ped))],H⟩) (fun q=>q≤pts.length-1) (fun q=>pts.length-1-q) ?_ 0 (zAf _)) rfl rfl
 intro i hi ih
 by_cases hlt:i<pts.length-1
 · obtain⟨x,hx⟩:∃ x,pts[i]? =some x:=⟨_,zA0 (by omega)⟩
   obtain⟨y,hy⟩:∃ y,pts[i+1]? =some y:=⟨_,zA0 (by omega)⟩
   have hyi:pts[(((i:Nat):Int)+1).toNat]? =some y:=by rw[show (((i:Nat):Int)+1).toNat=i+1 by omega];exact hy
   have hxr:=hpr x (zA2 hx)
   have hyr:=hpr y (zA2 hy)
   have hs1:=hst1 x
   have hs2:=hst2 x
   have hu:=hus (nxt l x) (nxt m x)
   have hfl:=z5l (prE op l m pts) (List.range i)
   rw[List.length_range] at hfl
   have ih':=ih (i+1) (by omega) (by omega)
   have hstep:(List.range (i+1)).filterMap (prE op l m pts)=(List.range i).filterMap (prE op l m pts)++(prE op l m pts i).toList:=by
    rw[List.range_succ,List.filterMap_append];simp[List.filterMap_cons];cases prE op l m pts i <;> rfl
   rw[hstep,prE,z2s hx,z2s hy] at ih'
   clear ih hstep
   generalize (List.range i).filterMap (prE op l m pts)=out at *
   generalize nxt l x=p1 at *
   generalize nxt m x=p2 at *
   by_cases hul:zea op p1 p2=true
   · rw[zAz hul,Option.toList_none,List.append_nil] at ih'
     rw[hul] at hu
     repeat' (first|(apply z07;(first|refine z0p ?_| (apply z0a;(first|refine z3p rfl h5 rfl rfl rfl rfl (by decide) ?_|refine z02 z2j rfl rfl ?_))|(apply z0n;(refine z02 (z0r z0y) rfl rfl ?_))|(apply z0u;(refine z1o hu ?_))))|(apply z08;(first|refine z0o ?_|apply z09))|(apply z05;(first|apply z06|apply z00|refine z0w ?_| apply z04|apply z01|apply z23|apply z03|refine z0f (fun _=>?_) (fun _=>?_)| refine z0h ?_))|(apply z25;(first|(apply z0t;refine z1b mix ?_)|refine z29 ?_| (apply z0j;(refine z0g z22 rfl rfl ?_))|(apply z0l;(refine z0g (z0v (ys:=pts.map rcc) rfl (idx (g:=rcc) hx)) rfl rfl ?_))|(apply z1k;(first|refine z4d hs1 ?_| refine z4d hs2 ?_))|(apply z1s;(refine z57 (by first|exact rfl|exact⟨_,rfl,rfl,rfl⟩) rfl rfl rfl rfl rfl rfl ?_))|(apply zca;(refine zg8 (by first|exact rfl|exact⟨_,rfl,rfl,rfl⟩) rfl rfl (by decide) ?_))|(apply zf9;(refine ziq (by first|exact rfl|exact⟨_,rfl,rfl,rfl⟩) rfl rfl rfl rfl rfl rfl rfl (by decide) ?_)))))
     all_goals exact zD26
   · rw[zAy hul,Option.toList_some] at ih'
     rw[Bool.not_eq_true] at hul
     rw[hul] at hu
     repeat' (first|(apply z07;(first|refine z0p ?_| (apply z0a;(first|refine z3p rfl h5 rfl rfl rfl rfl (by decide) ?_|refine z02 z2j rfl rfl ?_))|(apply z0n;(refine z02 (z0r z0y) rfl rfl ?_))|(apply z0u;(refine z1o hu ?_))))|(apply z08;(first|refine z0o ?_|apply z09))|(apply z05;(first|apply z06|apply z00|refine z1d ?_| apply z04|apply z01|apply z23|apply z03|refine z0f (fun _=>?_) (fun _=>?_)| refine z0h ?_))|(apply z25;(first|(apply z0t;refine z1b mix ?_)|refine z29 ?_| (apply z0j;(first|refine z0g z22 rfl rfl ?_| refine z0g z2j rfl rfl ?_))|(apply z0l;(first|refine z0g (z0v (ys:=pts.map rcc) rfl (idx (g:=rcc) hx)) rfl rfl ?_| refine z0g (z0v (ys:=pts.map rcc) rfl (z5o (g:=rcc) hyi)) rfl rfl ?_))|(apply z1q;(first|refine z0g (z1g (z9j (by omega) (by omega))) rfl rfl ?_| refine z0g (z0r z0y) rfl rfl ?_))|(apply z4l;(refine z6f (g:=ped) (by first|exact rfl|exact⟨_,rfl,rfl,rfl⟩) rfl rfl ((x,y-1,(p1,p2)):Go.Ax.Edge (Int × Int)) rfl rfl rfl rfl rfl rfl rfl (by decide) (by omega) ?_))|(apply z1k;(first|refine z4d hs1 ?_| refine z4d hs2 ?_))|(apply z1s;(refine z57 (by first|exact rfl|exact⟨_,rfl,rfl,rfl⟩) rfl rfl rfl rfl rfl rfl ?_))|(apply zca;(refine zg8 (by first|exact rfl|exact⟨_,rfl,rfl,rfl⟩) rfl rfl (by decide) ?_))|(apply zf9;(refine ziq (by first|exact rfl|exact⟨_,rfl,rfl,rfl⟩) rfl rfl rfl rfl rfl rfl rfl (by decide) ?_))|(apply z5x;(refine z9i rfl ?_)))))
     all_goals try (exfalso;first|omega|(simp at *;done))
     all_goals refine z2a 63 1001 ?_
     all_goals exact z0c ih' rfl rfl
 · obtain rfl:i=pts.length-1:=by omega
   clear ih
   repeat' (first|(apply z07;(refine z0p ?_))|(apply z08;(first|refine z0o ?_|apply z09))|(apply z05;(first|apply z06|apply z00|apply z04|apply z01|apply z23|refine z0f (fun _=>?_) (fun _=>?_)| refine z0h ?_))|(apply z25;(refine z29 ?_)))
   all_goals try (exfalso;omega)
   all_goals refine z1r 1001 rfl ?_
   all_goals exact z0q Tryz.func97 _ z1e ⟨rfl,rfl⟩
theorem zlq {F:List Bool} {A:List (List Arc)} (hA:zcm F A) (q:Int):okA none ((⟨F,A⟩:Au).arcs q)∧∀ x∈(⟨F,A⟩:Au).arcs q,0≤x.1∧x.1≤x.2.1∧x.2.1≤1114111∧0≤x.2.2∧x.2.2<F.length:=by
 rw[Au.arcs]
 split
 · exact⟨trivial,by simp⟩
 · cases hq:A[q.toNat]? with
   | none=>rw[List.getD,hq];exact⟨trivial,by simp⟩
   | some l =>
    rw[List.getD,hq]
    obtain⟨a1,a2,a3⟩:=hA.arc l (zA2 hq)
    exact⟨a1,a3⟩
theorem zmt {F:List Bool} {A:List (List Arc)} {a:Nat} (h:∀ l∈A,l.length≤a) (q:Int):((⟨F,A⟩:Au).arcs q).length≤a:=by
 rw[Au.arcs]
 split
 · simp
 · cases hq:A[q.toNat]? with
   | none=>rw[List.getD,hq];simp
   | some l=>rw[List.getD,hq];exact h l (zA2 hq)
theorem zpl {l:List Arc} {n:Nat} (h0:okA none l) (h:∀ x∈l,0≤x.2.2∧x.2.2<n) (c:Int):-1≤nxt l c∧nxt l c<n:=by
 refine⟨zm6 (p:=none) h0 c,?_⟩
 by_cases e:nxt l c=-1
 · rw[e];omega
 · obtain⟨y,hy,e2⟩:=zhu e
   have:=h y hy;omega
theorem zrf {l m:List Arc} (hl:∀ x∈l,0≤x.1∧x.1≤x.2.1∧x.2.1≤1114111) (hm:∀ x∈m,0≤x.1∧x.1≤x.2.1∧x.2.1≤1114111):∀ r∈[z4e l,z4e m],∀ x∈r,0≤x.1∧x.1≤1114111∧0≤x.2∧x.2≤1114111:=fun r hr x hx=>by
 simp only[zAc,List.not_mem_nil,or_false] at hr
 rcases hr with rfl|rfl
 · simp only[z4e,List.mem_map] at hx;obtain⟨y,hy,rfl⟩:=hx;have:=hl y hy;simp only;omega
 · simp only[z4e,List.mem_map] at hx;obtain⟨y,hy,rfl⟩:=hx;have:=hm y hy;simp only;omega
theorem zp1 (L:List (List Rg)):(z96 L).Pairwise (· <·):=(zg0 (Go.Ax.zb3 (z55 L))).1
theorem zho {op:Int} {l m:List Arc} {e:Go.Ax.Edge (Int × Int)} (h:e∈z6k op l m):∃ i x y,(z4x l m)[i]? =some x∧(z4x l m)[i+1]? =some y∧e=(x,y-1,(nxt l x,nxt m x))∧zea op (nxt l x) (nxt m x)=false:=by
 rw[z6k,List.mem_filterMap] at h
 obtain⟨i,hi,he⟩:=h
 rw[List.mem_range] at hi
 obtain⟨x,hx⟩:∃ x,(z4x l m)[i]? =some x:=⟨_,zA0 (by omega)⟩
 obtain⟨y,hy⟩:∃ y,(z4x l m)[i+1]? =some y:=⟨_,zA0 (by omega)⟩
 rw[prE,z2s hx,z2s hy] at he
 split at he
 · cases he
 · rename_i hu
   simp only[zAh] at he
   exact⟨i,x,y,hx,hy,he.symm,by simpa using hu⟩
theorem zth {op:Int} {F G:List Bool} {A C:List (List Arc)} (hA:zcm F A) (hC:zcm G C) (k:Int × Int):edE (z6k op ((⟨F,A⟩:Au).arcs k.1) ((⟨G,C⟩:Au).arcs k.2))∧∀ e∈z6k op ((⟨F,A⟩:Au).arcs k.1) ((⟨G,C⟩:Au).arcs k.2),okP F.length G.length e.2.2:=by
 obtain⟨l0,l1⟩:=zlq hA k.1
 obtain⟨m0,m1⟩:=zlq hC k.2
 generalize (⟨F,A⟩:Au).arcs k.1=l at *
 generalize (⟨G,C⟩:Au).arcs k.2=m at *
 have hr:=zal (zrf (fun x hx=>by have:=l1 x hx;omega) (fun x hx=>by have:=m1 x hx;omega))
 have hlt:=zp1 [z4e l,z4e m]
 have hlen:=zjj (B:=1114112) hlt (fun z hz=>by have:=hr z hz;omega)
 refine⟨⟨?_,fun e he=>?_⟩,fun e he=>?_⟩
 · have:=z5l (prE op l m (z4x l m)) (List.range ((z4x l m).length-1))
   rw[List.length_range] at this
   rw[z6k];rw[z4x] at *;omega
 · obtain⟨i,x,y,hx,hy,rfl,_⟩:=zho he
   exact zD60
 · obtain⟨i,x,y,hx,hy,rfl,_⟩:=zho he
   have h1:=zpl (n:=F.length) l0 (fun z hz=>by have:=l1 z hz;omega) x
   have h2:=zpl (n:=G.length) m0 (fun z hz=>by have:=m1 z hz;omega) x
   exact⟨h1.1,h1.2,h2.1,h2.2⟩
def ze5 (F G:List Bool) (A C:List (List Arc)) (op:Int):Option Au:=exL (fun k=>z9e op ((⟨F,A⟩:Au).fin k.1) ((⟨G,C⟩:Au).fin k.2)) (fun k=>z6k op ((⟨F,A⟩:Au).arcs k.1) ((⟨G,C⟩:Au).arcs k.2)) 1048576 1048577 0 [(0,0)] ⟨[],[]⟩
theorem zoo {N a c:Nat} (hS:zbr N) (hN:N≤200000000) (F G:List Bool) (A C:List (List Arc)) (op:Int) (hA:zcm F A) (hC:zcm G C) (ha:∀ l∈A,l.length≤a) (hc:∀ l∈C,l.length≤c) (hac:2+2*a+2*c≤N) :
 z0z Tryz.prog 49 [.d (auD ⟨F,A⟩),.d (auD ⟨G,C⟩),I .i64 op] (exR (ze5 F G A C op)):=by
 refine z1l fun H=>?_
 have hex:z27 Tryz.prog 101 [pcP (0,0),.fn (.func 94) [] [.ptr (0,5) 0,.ptr (0,3) 0,.ptr (0,4) 0],.fn (.func 97) [] [.ptr (0,3) 0,.ptr (0,4) 0,.ptr (0,5) 0],I .i64 1048576] [((0,3),BX F A),((0,4),BX G C),((0,5),.box [I .i64 op])] [] (exR (ze5 F G A C op)):=z2f fun H hH =>
  zns (BX F A) (BX G C) (.box [I .i64 op]) (okP F.length G.length) (fun k=>z9e op ((⟨F,A⟩:Au).fin k.1) ((⟨G,C⟩:Au).fin k.2)) (fun k=>z6k op ((⟨F,A⟩:Au).arcs k.1) ((⟨G,C⟩:Au).arcs k.2)) (0,0) 1048576 (by decide) (by decide) ⟨by decide,by have:=hA.pos;simp only;omega,by decide,by have:=hC.pos;simp only;omega⟩
   (fun k hk=>zzt F G A C op k hk) (fun k hk=>zzv hS hN F G A C op hA hC k hk (by have:=zmt (F:=F) ha k.1;have:=zmt (F:=G) hc k.2;omega)) (fun k hk=>zth hA hC k) H (hH ((0,3),BX F A) (by simp)) (hH ((0,4),BX G C) (by simp)) (hH ((0,5),.box [I .i64 op]) (by simp))
 generalize ze5 F G A C op=o at *
 cases o with
 | some x =>
  exact zD40
 | none =>
  exact zD40
abbrev zvb:PV:=.tup [.d (auD ⟨[],[]⟩),I .i64 1]
def zxf (o:Option Au):PV:=match o with
 | some a=>.tup [.d (auD a),I .i64 0]
 | none=>.tup [.d (auD ⟨[],[]⟩),I .i64 2]
noncomputable def y3a (a b:Au) (op:Int):Option Au:=(ze5 a.F b.F a.A b.A op).bind fun x=>zod x.F x.A 256
theorem zsv (a b:Au) (op:Int) (hfa:z9f a) (hfb:z9f b) (h:vAu a≠0∨vAu b≠0∨op<1∨4<op):z0z Tryz.prog 24 [.d (auD a),.d (auD b),I .i64 op] zvb:=by
 refine z1l fun H=>?_
 have hva:=zaz a hfa
 have hvb:=zaz b hfb
 generalize vAu a=u at *
 generalize vAu b=v at *
 by_cases h1:u=0
 · subst h1
   by_cases h2:v=0
   · subst h2
     have h3:op<1∨4<op:=by omega
     refine z0m Tryz.func24 (by kernel_rfl) rfl (by simp) ?_
     dsimp only[Tryz.f24]
     repeat' (first|(apply z07;(first|refine z0p ?_| (apply z0a;(refine z02 z3k rfl rfl ?_))|(apply z0u;(first|refine z1o hva ?_| refine z1o hvb ?_))|(apply z0d;(refine z2g ?_))|(apply z0k;(refine z0b z2q ?_))|(apply z1y;(refine z0b z2e ?_))|(apply z15;(refine z3u ?_))))|(apply z08;(first|refine z0o ?_|apply z09|refine z1w ?_| refine z2m (fun _=>?_) (fun _=>?_)))|(apply z05;(first|apply z06|apply z00|refine z1d ?_| apply z04|refine z0f (fun _=>?_) (fun _=>?_))))
     all_goals exact zD53
   · exact zD22
 · exact zD22
theorem y12 {N n m:Nat} (hS:zbr N) (hN:N≤200000000) (a b:Au) (op:Int) (hfa:z9f a) (hfb:z9f b) (ha:vAu a=0) (hb:vAu b=0) (h1:1≤op) (h4:op≤4) (hA:zcm a.F a.A) (hB:zcm b.F b.A) (hn:∀ l∈a.A,l.length≤n) (hm:∀ l∈b.A,l.length≤m) (hnm:2+2*n+2*m≤N)
 (hX:∀ x,ze5 a.F b.F a.A b.A op=some x→zcm x.F x.A):z0z Tryz.prog 24 [.d (auD a),.d (auD b),I .i64 op] (zxf (y3a a b op)):=by
 refine z1l fun H=>?_
 have hva:=zaz a hfa
 have hvb:=zaz b hfb
 rw[ha] at hva
 rw[hb] at hvb
 have hp:=zoo hS hN a.F b.F a.A b.A op hA hB hn hm hnm
 rw[y3a]
 obtain⟨F,A⟩:=a
 obtain⟨G,C⟩:=b
 simp only at hp hX ⊢
 generalize ze5 F G A C op=o at *
 cases o with
 | none =>
  simp only[exR] at hp
  simp only[Option.bind_none,zxf]
  refine z0m Tryz.func24 (by kernel_rfl) rfl (by simp) ?_
  dsimp only[Tryz.f24]
  repeat' (first|(apply z07;(first|refine z0p ?_| (apply z0a;(refine z02 z3k rfl rfl ?_))|(apply z0u;(first|refine z1o hva ?_| refine z1o hvb ?_| refine z1o hp ?_))|(apply z0d;(refine z2g ?_))|(apply z0k;(refine z0b z2q ?_))|(apply z1y;(refine z0b z2e ?_))|(apply z15;(refine z3u ?_))))|(apply z08;(first|refine z0o ?_|apply z09|refine z1w ?_| refine z2m (fun _=>?_) (fun _=>?_)))|(apply z05;(first|apply z06|apply z00|refine z1d ?_| refine z0w ?_| apply z04|refine z0f (fun _=>?_) (fun _=>?_))))
  all_goals exact zD53
 | some x =>
  obtain⟨xF,xA⟩:=x
  have hmi:=zii _ _ (hX _ rfl) 256 (by decide) (by decide)
  simp only at hmi
  simp only[exR] at hp
  simp only[Option.bind_some]
  generalize zod xF xA 256=o2 at *
  cases o2 with
  | none =>
   simp only[exR] at hmi
   simp only[zxf]
   refine z0m Tryz.func24 (by kernel_rfl) rfl (by simp) ?_
   dsimp only[Tryz.f24]
   repeat' (first|(apply z07;(first|refine z0p ?_| (apply z0a;(first|refine z02 z3k rfl rfl ?_| refine z02 z2j rfl rfl ?_))|(apply z0u;(first|refine z1o hva ?_| refine z1o hvb ?_| refine z1o hp ?_| refine z1o hmi ?_))|(apply z0d;(refine z2g ?_))|(apply z0k;(refine z0b z2q ?_))|(apply z1y;(refine z0b z2e ?_))|(apply z15;(refine z3u ?_))))|(apply z08;(first|refine z0o ?_|apply z09|refine z1w ?_| refine z2m (fun _=>?_) (fun _=>?_)))|(apply z05;(first|apply z06|apply z00|refine z1d ?_| apply z04|refine z0f (fun _=>?_) (fun _=>?_))))
   all_goals exact zD53
  | some y =>
   simp only[exR] at hmi
   simp only[zxf]
   refine z0m Tryz.func24 (by kernel_rfl) rfl (by simp) ?_
   dsimp only[Tryz.f24]
   repeat' (first|(apply z07;(first|refine z0p ?_| (apply z0a;(first|refine z02 z3k rfl rfl ?_| refine z02 z2j rfl rfl ?_))|(apply z0u;(first|refine z1o hva ?_| refine z1o hvb ?_| refine z1o hp ?_| refine z1o hmi ?_))|(apply z0d;(refine z2g ?_))|(apply z0k;(refine z0b z2q ?_))|(apply z1y;(refine z0b z2e ?_))|(apply z15;(refine z3u ?_))))|(apply z08;(first|refine z0o ?_|apply z09|refine z1w ?_| refine z2m (fun _=>?_) (fun _=>?_)))|(apply z05;(first|apply z06|apply z00|refine z1d ?_| refine z0w ?_| apply z04|refine z0f (fun _=>?_) (fun _=>?_))))
   all_goals exact zD53
def zo7:Au:=⟨[true],[[(0,1114111,0)]]⟩
theorem zjb (a:Au) {p:PV} (hp:∃ (b:Au) (e:Int),p=.tup [.d (auD b),I .i64 e]) (h:z0z Tryz.prog 24 [.d (auD zo7),.d (auD a),I .i64 3] p):z0z Tryz.prog 26 [.d (auD a)] p:=by
 refine z1l fun H=>?_
 obtain⟨⟨G,C⟩,e,rfl⟩:=hp
 obtain⟨F,A⟩:=a
 refine z0m Tryz.func26 (by kernel_rfl) rfl (by simp) ?_
 dsimp only[Tryz.f26]
 repeat' (first|(apply z07;(first|refine z0p ?_| (apply z0a;(first|refine z02 z3k rfl rfl ?_| refine z02 z2j rfl rfl ?_))|(apply z0u;(refine z1o h ?_))|(apply z0d;(refine z2g ?_))|(apply z0k;(refine z0b z2q ?_))|(apply z1y;(refine z0b z2e ?_))|(apply z15;(refine z3u ?_))|(apply z2h;(refine z2n rfl ?_))))|(apply z08;(first|refine z0o ?_|apply z09))|(apply z05;(first|apply z06|apply z00)))
 all_goals exact z0q Tryz.func26 _ (z10 rfl rfl rfl rfl rfl rfl rfl) ⟨rfl,rfl⟩
end Go.Proofs.YthdfkabdoidjfaaGreatDoor
