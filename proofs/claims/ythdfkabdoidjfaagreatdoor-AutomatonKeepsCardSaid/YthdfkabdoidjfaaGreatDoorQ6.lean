/- A part of the proof: A32, A33, A34, A35, A36, A37, A38. -/
import Derived.Test.YthdfkabdoidjfaaGreatDoorQ5
import Derived.Test.YthdfkabdoidjfaaGreatDoorQ1
import Derived.Test.YthdfkabdoidjfaaGreatDoorQ8
import Derived.Test.YthdfkabdoidjfaaGreatDoorQs
import Derived.Test.YthdfkabdoidjfaaGreatDoorQz
import Derived.Test.YthdfkabdoidjfaaGreatDoorQy
set_option linter.all false
set_option linter.unusedVariables false
set_option linter.unusedSimpArgs false
namespace Go.Proofs.YthdfkabdoidjfaaGreatDoor
open Go.Ab Go.Ax Go.Rx
set_option maxHeartbeats 20000000
set_option maxRecDepth 100000
def zv1 (x:Int):List Int→List Int
 | []=>[x]
 | y::l=>if x≤y then x::y::l else y::zv1 x l
def zul:List Int→List Int
 | []=>[]
 | x::l=>zv1 x (zul l)
theorem zbh (x:Int):∀ l:List Int,(zv1 x l).Perm (x::l)
 | []=>List.Perm.refl _
 | y::l=>by
  rw[zv1]
  split
  · exact List.Perm.refl _
  · exact((zbh x l).cons y).trans (List.Perm.swap x y l)
theorem zer:∀ l:List Int,(zul l).Perm l
 | []=>List.Perm.refl _
 | x::l=>(zbh x (zul l)).trans ((zer l).cons x)
theorem zjf (x:Int):∀ l:List Int,l.Pairwise (· ≤·)→(zv1 x l).Pairwise (· ≤·)
 | [],_=>by simp[zv1]
 | y::l,h=>by
  rw[zv1]
  rw[List.pairwise_cons] at h
  split
  · rename_i hx
    refine List.pairwise_cons.2 ⟨fun z hz=>?_,List.pairwise_cons.2 h⟩
    rcases List.mem_cons.1 hz with rfl|hz
    · exact hx
    · have:=h.1 z hz;omega
  · rename_i hx
    refine List.pairwise_cons.2 ⟨fun z hz=>?_,zjf x l h.2⟩
    rcases List.mem_cons.1 ((zbh x l).mem_iff.1 hz) with rfl|hz
    · omega
    · exact h.1 z hz
theorem zi6:∀ l:List Int,(zul l).Pairwise (· ≤·)
 | []=>by simp[zul]
 | x::l=>zjf x _ (zi6 l)
theorem zph (l:List Int):Go.Ax.srt l=zul l:=zru (zer l).symm (zi6 l)
def znh (L:List (List Rg)):List Int:=cpt (zul (z5u L))
theorem zrr (L:List (List Rg)):z81 L=znh L:=by rw[z81,zph];rfl
theorem ztb (N:Nat) (lv:List (List Rg)):zcf N lv=(List.range ((znh (z8q N 0 lv)).length-1)).filterMap (cE N lv (znh (z8q N 0 lv))):=by
 rw[zcf,zf6,zrr]
theorem zu8 (op:Int) (l m:List Arc):zbw op l m=(List.range ((znh [z62 l,z62 m]).length-1)).filterMap (prE op l m (znh [z62 l,z62 m])):=by
 rw[zbw,z6r,zrr]
abbrev eS:Rx:=.mk 4 0 (-1) [] [.mk 2 0 0 [] [.mk 1 0 0 [(97,97)] [],.mk 1 0 0 [(98,98)] []]]
abbrev cA:Au:=⟨[true,false,true],[[(97,97,1)],[(98,98,2)],[(97,97,1)]]⟩
abbrev mA:Au:=⟨[true,false],[[(97,97,1)],[(98,98,0)]]⟩
abbrev pA:Au:=⟨[false,true,true,false],[[(0,96,1),(97,97,2),(98,1114111,1)],[(0,1114111,1)],[(0,97,1),(98,98,3),(99,1114111,1)],[(0,96,1),(97,97,2),(98,1114111,1)]]⟩
abbrev nA:Au:=⟨[false,true,true],[[(0,96,1),(97,97,2),(98,1114111,1)],[(0,1114111,1)],[(0,97,1),(98,98,0),(99,1114111,1)]]⟩
theorem zvg:bd eS tb0=(⟨[[(97,97)],[(98,98)]],[2,1]⟩,⟨1,2,true⟩):=by rfl
theorem zxj:zp6 eS=some cA:=by
 rw[zp6,zqw]
 simp only[ztb,zvg]
 kernel_rfl
theorem zrd:zfk zrp.F cA.F zrp.A cA.A 3=some pA:=by
 rw[zfk]
 simp only[zu8]
 kernel_rfl
theorem znj:z6j cA.F cA.A=some cA:=by kernel_rfl
theorem zmc {F:List Bool} {A:List (List Arc)} (h:∀ q:Nat,q<F.length→z5o F A q):z5x F A=F.map fun _=>true:=by
 rw[z5x]
 refine List.ext_getElem (by simp) fun i h1 h2=>?_
 simp only[List.getElem_map,List.getElem_range]
 simp at h1
 have h2:=h i h1
 rw[← List.getElem_range (n:=F.length) (j:=i) (by simpa using h1)] at h2
 exact @decide_eq_true _ (_) h2
theorem ztu {F:List Bool} {A:List (List Arc)} (h:∀ q:Nat,q<F.length→z5o F A q):cl0 F A=F.map fun b=>if b=true then 1 else 0:=by
 rw[cl0,zmc h]
 refine List.ext_getElem (by simp) fun i h1 h2=>?_
 simp at h1
 simp[h1]
theorem zmm {F:List Bool} {A:List (List Arc)} (h:∀ q:Nat,q<F.length→z5o F A q) (lim:Nat):zkv F A lim=match zh8 A lim (F.length+1) 0 (F.map fun b=>if b=true then 1 else 0) with
 | none=>none
 | some cl=>if cl.getD 0 0<0 then some ⟨[false],[[]]⟩ else zwo F A cl lim:=by
 rw[zkv,zrz,ztu h]
 generalize zh8 A lim (F.length+1) 0 (F.map fun b=>if b=true then 1 else 0)=o
 cases o <;> rfl
theorem zzh:∀ q:Nat,q<cA.F.length→z5o cA.F cA.A q:=fun q hq=>by
 have:q=0∨q=1∨q=2:=by simp at hq;omega
 have l2:z5o cA.F cA.A 2:=.fin 2 rfl
 rcases this with rfl|rfl|rfl
 · exact .fin 0 rfl
 · exact .arc 1 [(98,98,2)] (98,98,2) rfl (by simp) l2
 · exact l2
theorem zz3:∀ q:Nat,q<pA.F.length→z5o pA.F pA.A q:=fun q hq=>by
 have:q=0∨q=1∨q=2∨q=3:=by simp at hq;omega
 have l1:z5o pA.F pA.A 1:=.fin 1 rfl
 rcases this with rfl|rfl|rfl|rfl
 · exact .arc 0 _ (0,96,1) rfl (by simp) l1
 · exact l1
 · exact .fin 2 rfl
 · exact .arc 3 _ (0,96,1) rfl (by simp) l1
theorem zyh:zkv cA.F cA.A 256=some mA:=by
 rw[zmm zzh]
 kernel_rfl
theorem zyz:zkv pA.F pA.A 256=some nA:=by
 rw[zmm zz3]
 kernel_rfl
theorem zze:val eS=0:=by rfl
theorem zyd:fit eS:=by simp[fit,zvc]
theorem zzi (N:Nat):(z5u (z8q N 0 [[(97,97)],[(98,98)]])).length≤12:=by
 simp only[z8q]
 split <;> split <;> simp[z5u,ends]
theorem zm6:∀ {l:List Arc} {p:Option Arc},okA p l→(l.map fun x=>x.1).Pairwise (· <·)
 | [],_,_=>List.Pairwise.nil
 | x::l,p,h=>by
  rw[List.map_cons,List.pairwise_cons]
  refine⟨fun z hz=>?_,zm6 h.2.2.2⟩
  obtain⟨e,he,rfl⟩:=List.mem_map.1 hz
  have:=zfr h.2.2.2 e he
  have:=h.1
  omega
theorem zog {l:List Arc} {p:Option Arc} (h:okA p l) (hr:∀ x∈l,0≤x.1∧x.1≤1114111):l.length≤1114112:=by
 have:=zhr (B:=1114111) (zm6 h) fun z hz=>by
  obtain⟨e,he,rfl⟩:=List.mem_map.1 hz
  have:=hr e he
  omega
 rw[List.length_map] at this
 exact this
theorem zlp {B:Nat}:∀ {A:List (List Arc)},(∀ l∈A,l.length≤B)→(A.map List.length).sum≤A.length*B
 | [],_=>by simp
 | l::A,h=>by
  rw[List.map_cons,List.sum_cons,List.length_cons,Nat.succ_mul]
  have:=h l (by simp)
  have:=zlp (A:=A) fun m hm=>h m (by simp[hm])
  omega
theorem z9i {a:Au} (h:vAu a=0):zav a.F a.A∧∀ l∈a.A,l.length≤1114112:=by
 have hv:=ze8 h
 have hl:∀ l∈a.A,l.length≤1114112:=fun l hl=>zog (hv.arc l hl).1 fun x hx=>by have:=(hv.arc l hl).2 x hx;omega
 have hs:=zlp hl
 have h1:=hv.few
 have h2:=hv.len
 have h3:a.A.length*1114112≤256*1114112:=Nat.mul_le_mul_right _ (by omega)
 exact⟨⟨hv.len,fun l h=>⟨(hv.arc l h).1,by have:=hl l h;omega,(hv.arc l h).2⟩,by omega,hv.pos,by omega⟩,hl⟩
theorem zv6 {a:Au} (h:vAu a=0):zgc a:=by
 have h1:=(z9i h).1
 have h2:=h1.len
 have h3:=h1.few
 exact⟨by omega,by omega,fun l hl=>by have:=(z9i h).2 l hl;omega⟩
theorem okC:zav cA.F cA.A:=(z9i (a:=cA) (by kernel_rfl)).1
theorem zzn:zav pA.F pA.A:=(z9i (a:=pA) (by kernel_rfl)).1
theorem zym:zav zrp.F zrp.A:=(z9i (a:=zrp) (by kernel_rfl)).1
theorem zxi:zgc cA:=⟨by decide,by decide,by decide⟩
theorem zwl:zgc nA:=⟨by decide,by decide,by decide⟩
theorem zuu:zgc zrp:=⟨by decide,by decide,by decide⟩
theorem zt0:z11 Tryz.prog 33 [.d (Drx eS)] (.tup [.d (auD cA),I .i64 0]):=by
 have h:=zlc zim (by decide) eS zyd zze (by rw[zvg];exact zxt) (by rw[zvg];decide) (by rw[zvg];decide) (by rw[zvg];decide) (by rw[zvg];exact zzi)
 rw[zxj] at h
 exact h
theorem zx2:z11 Tryz.prog 21 [.d (auD cA)] (.tup [.d (auD mA),I .i64 0]):=by
 have hm:zdh cA=mA:=by rw[zdh,znj,Option.getD_some,zyh];rfl
 have h:=z9h cA zxi (by kernel_rfl) okC (by rw[znj];exact okC)
 rw[hm] at h
 exact h
theorem zwc:z11 Tryz.prog 26 [.d (auD cA)] (.tup [.d (auD nA),I .i64 0]):=by
 have h:=zzy zim (by decide) zrp cA 3 zuu zxi (by kernel_rfl) (by kernel_rfl) (by decide) (by decide) zym okC (n:=1) (m:=1) (by decide) (by decide) (by decide) (fun x hx=>by rw[zrd] at hx;simp only[Option.some.injEq] at hx;rw[← hx];exact zzn)
 rw[zzg,zrd,Option.bind_some,zyz] at h
 exact zu9 cA ⟨nA,0,rfl⟩ h
theorem zwx:zqf nA ⟨#[97]⟩=true:=by kernel_rfl
theorem zwk:zqf nA ⟨#[]⟩=false:=by kernel_rfl
attribute [local irreducible] Run Ops Op1 z1t Val Tr z11 z1s NF Rel z43 z42 zdd
theorem ztv (τ:Tab):z1s Tryz.prog 18 [] (zeh τ 0) [] (B true):=by
 refine z2g fun H hH=>?_
 have hX0:=hH ((0,700),.glob 0 τ.o0) (by simp)
 have hX1:=hH ((0,701),.glob 1 τ.o1) (by simp)
 have p1:=zra τ
 have q1:=zt0
 have q2:=zx2
 have q3:=zwc
 have q4:=zpp nA zwl (by decide) ⟨#[97]⟩ (by decide)
 have q5:=zpp nA zwl (by decide) ⟨#[]⟩ (by decide)
 rw[zwx] at q4
 rw[zwk] at q5
 refine z0j Tryz.func18 (by kernel_rfl) rfl (by simp) ?_
 dsimp only[Tryz.f18]
 refine z5k 700 0 700 hX0 rfl rfl ?_
 refine z5k 701 0 701 (z18 hX1 (by simp)) rfl rfl ?_
 repeat' (first|(apply z07;(first|refine z0o ?_| (apply z06;(first|refine z02 z1c rfl rfl ?_| refine z02 z2d rfl rfl ?_| refine z02 z23 rfl rfl ?_))|(apply z0d;(refine z02 z0i rfl rfl ?_))|(apply z0g;(refine z02 (z9d rfl (by decide) rfl rfl) rfl rfl ?_))|(apply z10;(refine z02 (z1f rfl) rfl rfl ?_))|(apply z0t;(first|refine z3c p1 rfl rfl (by decide) ?_|refine z1h q1 ?_| refine z1h q2 ?_| refine z1h q3 ?_| refine z1h q4 ?_| refine z1h q5 ?_))|(apply z0c;(refine z1r ?_))|(apply z0e;(refine z05 z2e ?_))))|(apply z09;(first|refine z0n ?_|apply z0a))|(apply z08;(first|apply z0b|apply z00)))
 all_goals try (exfalso;first|omega|(simp at *;done))
 all_goals refine z4j 700 0 700 (raw:=.glob 0 τ.o0) rfl rfl (z18 (z2w _ (0,700) _) (by simp)) rfl rfl ?_
 all_goals refine z4j 701 0 701 (raw:=.glob 1 τ.o1) rfl rfl (z18 (z2w _ (0,701) _) (by simp)) rfl rfl ?_
 all_goals exact z0k Tryz.func18 _ z19 ⟨rfl,z6w hX0 hX1⟩
end Go.Proofs.YthdfkabdoidjfaaGreatDoor
namespace Go.Proofs.YthdfkabdoidjfaaGreatDoor
open Go.Ab Go.Ax Go.Rx
set_option maxHeartbeats 20000000
set_option maxRecDepth 100000
attribute [local irreducible] Run Ops Op1 z1t Val Tr z11 z1s NF Rel z43 z42 zdd
def lgA (n:Int) (a:Au):Bool:=decide (n<a.F.length)||decide (n+1<a.A.length)||a.A.any fun l=>decide (12<l.length)
theorem zt4 (n:Int) (hn:0≤n∧n≤1000) (L:List Au) (hl:L.length≤10) (hf:∀ a∈L,zgc a):z11 Tryz.prog 15 [I .i64 n,.d (.slice (L.map auc))] (B (L.any (lgA n))):=by
 refine z1j fun H=>?_
 refine z0j Tryz.func15 (by kernel_rfl) rfl (by simp) ?_
 dsimp only[Tryz.f15]
 repeat' (first|(apply z07;(first|refine z0o ?_| (apply z10;(refine z02 (z1f rfl) rfl rfl ?_))))|(apply z09;(first|refine z0n ?_|apply z0a))|(apply z08;(first|apply z0b|apply z00|apply z01)))
 all_goals try (exfalso;omega)
 refine z1g ?_
 refine z0f (z2i (fun q:Nat=>⟨40,[(0,I .i64 n),(4,B false),(9,.d (.slice (L.map auc))),(10,I .i64 L.length),(11,I .i64 (q:Nat))],[],H⟩) (fun q=>q≤L.length∧(L.drop q).any (lgA n)=L.any (lgA n)) (fun q=>L.length-q) ?_ 0 ⟨Nat.zero_le _,rfl⟩) rfl rfl
 intro i ⟨i1,i2⟩ ih
 by_cases hlt:i<L.length
 · obtain⟨a,ha⟩:∃ a,L[i]? =some a:=⟨_,List.getElem?_eq_getElem hlt⟩
   have hfa:=hf a (List.mem_of_getElem? ha)
   rw[drop_cons ha,List.any_cons,lgA] at i2
   obtain⟨f1,f2,f3⟩:=hfa
   by_cases h1:n<a.F.length
   · rw[decide_eq_true h1,Bool.true_or,Bool.true_or,Bool.true_or] at i2
     rw[← i2]
     repeat' (first|(apply z07;(first|refine z0o ?_| (apply z06;(first|refine z02 z1c rfl rfl ?_| refine z02 z1u rfl rfl ?_))|(apply z0d;(refine z02 z0i rfl rfl ?_))|(apply z0g;(refine z02 (z1x (ys:=L.map auc) rfl (idx (g:=auc) ha)) rfl rfl ?_))|(apply z0y;(refine z02 (z0v z1e) rfl rfl ?_))|(apply z10;(refine z02 (z1f rfl) rfl rfl ?_))|(apply z0c;(refine z1r ?_))|(apply z0e;(refine z05 z2e ?_))))|(apply z09;(first|refine z0n ?_|apply z0a|refine z29 ?_| refine z2z (fun _=>?_) (fun _=>?_)))|(apply z08;(first|apply z0b|apply z00|refine z1i ?_| apply z04|apply z01|refine z0h (fun _=>?_) (fun _=>?_)| refine z0m ?_)))
     all_goals try (exfalso;omega)
     all_goals exact z0k Tryz.func15 _ z19 ⟨rfl,rfl⟩
   by_cases h2:n+1<a.A.length
   · rw[decide_eq_true h2,Bool.or_true,Bool.true_or,Bool.true_or] at i2
     rw[← i2]
     repeat' (first|(apply z07;(first|refine z0o ?_| (apply z06;(first|refine z02 z1c rfl rfl ?_| refine z02 z1u rfl rfl ?_))|(apply z0d;(refine z02 z0i rfl rfl ?_))|(apply z0g;(refine z02 (z1x (ys:=L.map auc) rfl (idx (g:=auc) ha)) rfl rfl ?_))|(apply z0y;(refine z02 (z0v z1e) rfl rfl ?_))|(apply z10;(refine z02 (z1f rfl) rfl rfl ?_))|(apply z0c;(refine z1r ?_))|(apply z0e;(refine z05 z2e ?_))))|(apply z09;(first|refine z0n ?_|apply z0a|refine z29 ?_| refine z2z (fun _=>?_) (fun _=>?_)))|(apply z08;(first|apply z0b|apply z00|refine z1i ?_| apply z04|apply z01|refine z0h (fun _=>?_) (fun _=>?_)| refine z0m ?_)))
     all_goals try (exfalso;omega)
     all_goals exact z0k Tryz.func15 _ z19 ⟨rfl,rfl⟩
   rw[decide_eq_false h1,decide_eq_false h2,Bool.false_or,Bool.false_or] at i2
   repeat' (first|(apply z07;(first|refine z0o ?_| (apply z06;(first|refine z02 z1c rfl rfl ?_| refine z02 z1u rfl rfl ?_))|(apply z0d;(refine z02 z0i rfl rfl ?_))|(apply z0g;(refine z02 (z1x (ys:=L.map auc) rfl (idx (g:=auc) ha)) rfl rfl ?_))|(apply z0y;(refine z02 (z0v z1e) rfl rfl ?_))|(apply z10;(refine z02 (z1f rfl) rfl rfl ?_))|(apply z0c;(refine z1r ?_))|(apply z0e;(refine z05 z2e ?_))))|(apply z09;(first|refine z0n ?_|apply z0a|refine z29 ?_| refine z2z (fun _=>?_) (fun _=>?_)))|(apply z08;(first|apply z0b|apply z00|refine z1i ?_| apply z04|apply z01|refine z0h (fun _=>?_) (fun _=>?_)| refine z0m ?_)))
   all_goals try (exfalso;omega)
   refine z1g ?_
   refine z0f (z2i (fun q:Nat=>⟨40,[(0,I .i64 n),(4,B false),(9,.d (.slice (L.map auc))),(10,I .i64 L.length),(11,I .i64 (i:Nat)),(29,.d (.slice (a.A.map z4v))),(30,I .i64 a.A.length),(31,I .i64 (q:Nat))],[],H⟩) (fun q=>q≤a.A.length∧(((a.A.drop q).any fun l=>decide (12<l.length))||(L.drop (i+1)).any (lgA n))=L.any (lgA n)) (fun q=>a.A.length-q) ?_ 0 ⟨Nat.zero_le _,i2⟩) rfl rfl
   intro j ⟨j1,j2⟩ ihj
   by_cases hj:j<a.A.length
   · obtain⟨l,hl2⟩:∃ l,a.A[j]? =some l:=⟨_,List.getElem?_eq_getElem hj⟩
     have hll:=f3 l (List.mem_of_getElem? hl2)
     rw[drop_cons hl2,List.any_cons] at j2
     by_cases h3:12<l.length
     · rw[decide_eq_true h3,Bool.true_or,Bool.true_or] at j2
       rw[← j2]
       repeat' (first|(apply z07;(first|refine z0o ?_| (apply z06;(refine z02 z2d rfl rfl ?_))|(apply z0g;(refine z02 (z1x (ys:=a.A.map z4v) rfl (idx (g:=z4v) hl2)) rfl rfl ?_))|(apply z0y;(refine z02 (z0v z1e) rfl rfl ?_))|(apply z10;(refine z02 (z1f rfl) rfl rfl ?_))))|(apply z09;(first|refine z0n ?_|apply z0a))|(apply z08;(first|apply z0b|apply z00|apply z04|apply z01|apply z03|refine z0h (fun _=>?_) (fun _=>?_)| refine z0m ?_)))
       all_goals try (exfalso;omega)
       all_goals exact z0k Tryz.func15 _ z19 ⟨rfl,rfl⟩
     · rw[decide_eq_false h3,Bool.false_or] at j2
       have ih':=ihj (j+1) ⟨by omega,j2⟩ (by omega)
       repeat' (first|(apply z07;(first|refine z0o ?_| (apply z06;(refine z02 z2d rfl rfl ?_))|(apply z0g;(refine z02 (z1x (ys:=a.A.map z4v) rfl (idx (g:=z4v) hl2)) rfl rfl ?_))|(apply z0y;(refine z02 (z0v z1e) rfl rfl ?_))|(apply z10;(refine z02 (z1f rfl) rfl rfl ?_))))|(apply z09;(first|refine z0n ?_|apply z0a))|(apply z08;(first|apply z0b|apply z00|apply z04|apply z01|apply z03|refine z0h (fun _=>?_) (fun _=>?_)| refine z0m ?_)))
       all_goals try (exfalso;omega)
       all_goals exact z0f ih' rfl rfl
   · obtain rfl:j=a.A.length:=by omega
     rw[List.drop_length,List.any_nil,Bool.false_or] at j2
     have ih':=ih (i+1) ⟨by omega,j2⟩ (by omega)
     repeat' (first|(apply z07;(first|refine z0o ?_| (apply z0y;(refine z02 (z0v z1e) rfl rfl ?_))))|(apply z09;(first|refine z0n ?_|apply z0a))|(apply z08;(first|apply z0b|apply z00|apply z04|apply z01|apply z03|refine z0h (fun _=>?_) (fun _=>?_)| refine z0m ?_)))
     all_goals try (exfalso;omega)
     all_goals exact z0f ih' rfl rfl
 · obtain rfl:i=L.length:=by omega
   rw[List.drop_length,List.any_nil] at i2
   rw[← i2]
   repeat' (first|(apply z07;(refine z0o ?_))|(apply z09;(first|refine z0n ?_|apply z0a))|(apply z08;(first|apply z0b|apply z00|apply z04|apply z01|refine z0h (fun _=>?_) (fun _=>?_)| refine z0m ?_)))
   all_goals try (exfalso;omega)
   all_goals exact z0k Tryz.func15 _ z19 ⟨rfl,rfl⟩
end Go.Proofs.YthdfkabdoidjfaaGreatDoor
namespace Go.Proofs.YthdfkabdoidjfaaGreatDoor
open Go.Ab Go.Ax Go.Rx Go.ChangeShapes Go.WideShapes Go.ChangeAt Go.RowKit
set_option maxHeartbeats 20000000
set_option maxRecDepth 100000
theorem zvl {ds:List D} (h:ShL Tryz.prog [21,21,3] ds):∃ a:Arc,ds=z2r a:=by
 obtain⟨a,_,rfl,h1,b,_,rfl,h2,c,_,rfl,h3,rfl⟩:=h
 obtain⟨x,rfl,_⟩:=h1.inv_int (k:=.i32) (by kernel_rfl)
 obtain⟨y,rfl,_⟩:=h2.inv_int (k:=.i32) (by kernel_rfl)
 obtain⟨z,rfl,_⟩:=h3.inv_int (k:=.i64) (by kernel_rfl)
 exact⟨(x,y,z),rfl⟩
theorem zug {ds:List D} (h:Sh Tryz.prog 39 ds):∃ l:List Arc,ds=z4v l∧l.length≤9223372036854775807:=by
 obtain⟨l,rfl,hl,_⟩:=h.inv_list (e:=38) z2r (fun _=>True) (by kernel_rfl) fun x hx=>by
  obtain⟨a,rfl⟩:=zvl (hx.inv_fields (ts:=[21,21,3]) (by kernel_rfl))
  exact⟨a,rfl,trivial⟩
 exact⟨l,rfl,hl⟩
theorem zx0 {ds:List D} (h:Sh Tryz.prog 22 ds):∃ l:List Bool,ds=[zhq l]∧l.length≤9223372036854775807:=by
 obtain⟨l,rfl,hl,_⟩:=h.inv_list (e:=4) boc (fun _=>True) (by kernel_rfl) fun x hx=>by
  cases hx with
  | bool _ b _=>exact⟨b,rfl,trivial⟩
  | int t k z hu _ _=>exact absurd (hu.symm.trans (show Tryz.prog.underlying 4=some .bool by kernel_rfl)) (by simp)
  | str t z hu _=>exact absurd (hu.symm.trans (show Tryz.prog.underlying 4=some .bool by kernel_rfl)) (by simp)
  | slice t _ _ hu _ _=>exact absurd (hu.symm.trans (show Tryz.prog.underlying 4=some .bool by kernel_rfl)) (by simp)
  | struct t _ _ hu _ _=>exact absurd (hu.symm.trans (show Tryz.prog.underlying 4=some .bool by kernel_rfl)) (by simp)
 exact⟨l,rfl,hl⟩
theorem zzx {ds:List D} (h:ShL Tryz.prog [22,23] ds):∃ a:Au,ds=auc a∧zgc a:=by
 obtain⟨a,_,rfl,h1,b,_,rfl,h2,rfl⟩:=h
 obtain⟨F,rfl,hF⟩:=zx0 h1
 obtain⟨A,rfl,hA,hl⟩:=h2.inv_list (e:=39) z4v (fun l=>l.length≤9223372036854775807) (by kernel_rfl) fun x hx=>zug hx
 exact⟨⟨F,A⟩,rfl,hF,hA,hl⟩
theorem zza {H:Type} {enc:TypeId × Value→H} {W:World} {v:Value} {d:DataW H} {p:List MemPlace} {r:Reach} {b0:Nat} (hsep:∀ g o v,zmg g→W.cell? ⟨g,o,none⟩=some v→∃ z,v=.int .u8 z) (hval:Value.okWide Tryz.prog W r b0 25 v)
 (h:DataW.Trod enc Tryz.prog W 0 (fun _=>true) true 25 v d p):∃ a:Au,zgc a∧DR W zmg (auD a) v:=by
 obtain⟨ds,h1,h2,_⟩:=zpq hsep (G:=[25,22,23,4,39,38,21,3]) (by kernel_rfl) (by kernel_rfl) (by decide) hval h
 obtain⟨fs,u25,_⟩:=z71 (show fieldTypes Tryz.prog 25=some [22,23] by kernel_rfl)
 obtain⟨a,rfl,ha⟩:=zzx (h1.inv_fields (ts:=[22,23]) (by kernel_rfl))
 exact⟨a,ha,h2 ⟨fs,u25⟩⟩
end Go.Proofs.YthdfkabdoidjfaaGreatDoor
namespace Go.Proofs.YthdfkabdoidjfaaGreatDoor
open Go.Ab Go.Ax Go.Rx
set_option maxHeartbeats 20000000
set_option maxRecDepth 100000
attribute [local irreducible] Run Ops Op1 z1t Val Tr z11 z1s NF Rel z43 z42 zdd
theorem zvt {n:Int} {a:Au} (h:¬ lgA n a=true) (hl:zgc a):∀ l∈a.A,l.length≤12:=fun l hl=>by
 rw[lgA,Bool.or_eq_true,not_or,List.any_eq_true] at h
 by_cases hc:l.length≤12
 · exact hc
 · exact absurd ⟨l,hl,decide_eq_true (by omega)⟩ h.2
end Go.Proofs.YthdfkabdoidjfaaGreatDoor
namespace Go.Proofs.YthdfkabdoidjfaaGreatDoor
open Go.Ab Go.Ax Go.Rx
set_option maxHeartbeats 20000000
set_option maxRecDepth 100000
theorem zvk {a:Au} (h:vAu a=0):AuW a:=by
 have hv:=ze8 h
 exact⟨hv.len,hv.arc,hv.pos⟩
theorem znl {a:Au} (hv:AuW a) (hn:a.F.length≤256):zav a.F a.A:=by
 have hl:∀ l∈a.A,l.length≤1114112:=fun l hl=>zog (hv.arc l hl).1 fun x hx=>by have:=(hv.arc l hl).2 x hx;omega
 have hs:=zlp hl
 have h2:=hv.len
 have h3:a.A.length*1114112≤256*1114112:=Nat.mul_le_mul_right _ (by omega)
 exact⟨hv.len,fun l h=>⟨(hv.arc l h).1,by have:=hl l h;omega,(hv.arc l h).2⟩,by omega,hv.pos,by omega⟩
theorem zvh {n:Nat} (cl:List Int) (hl:cl.length=n) (q:Nat) (hq:q<n):stQ cl (cl.getD q 0)<n∧cl.getD (stQ cl (cl.getD q 0)) 0=cl.getD q 0:=by
 obtain⟨r,hr⟩:=z8h (cl:=cl) (k:=cl.getD q 0) (j:=cl.length) (s:=q) (by omega) rfl
 have h:=z61 hr
 rw[stQ,hr]
 exact⟨by simpa[hl] using h.1,h.2⟩
theorem zm8 {a:Au} (h:AuW a) (hn:a.F.length≤256):∃ m,zkv a.F a.A 256=some m∧Nrm m∧AuW m∧m.F.length≤a.F.length∧∀ w,m.acc 0 w=a.acc 0 w:=by
 obtain⟨cl,hcl,m,hm,h1⟩:=zpx h hn (st:=stQ) fun cl hl q hq=>zvh cl hl q hq
 refine⟨m,?_,h1⟩
 rw[zkv,hcl]
 exact hm
theorem zh2 {a:Au} (h:AuW a):∃ b,z6j a.F a.A=some b∧AuW b∧b.F.length≤a.F.length∧∀ w,b.acc 0 w=a.acc 0 w:=by
 obtain⟨b,hb,h1⟩:=zk1 h
 exact⟨b,hb,h1⟩
theorem zb6 {a:Au} (h:AuW a) (hn:a.F.length≤256):Nrm (zdh a)∧AuW (zdh a)∧(zdh a).F.length≤a.F.length∧(∀ w,(zdh a).acc 0 w=a.acc 0 w)∧zav ((z6j a.F a.A).getD ⟨[],[]⟩).F ((z6j a.F a.A).getD ⟨[],[]⟩).A:=by
 obtain⟨b,hb,b1,b2,b3⟩:=zh2 h
 obtain⟨m,hm,m1,m2,m3,m4⟩:=zm8 b1 (by omega)
 have e:zdh a=m:=by rw[zdh,hb,Option.getD_some,hm];rfl
 rw[e,hb,Option.getD_some]
 exact⟨m1,m2,by omega,fun w=>by rw[m4,b3],znl b1 (by omega)⟩
theorem zu1 {a:Au} (h:AuW a) (hn:a.F.length≤256):zdh (zdh a)=zdh a:=by
 obtain⟨h1,h2,h3,h4,_⟩:=zb6 h hn
 obtain⟨g1,g2,g3,g4,_⟩:=zb6 h2 (by omega)
 exact zwi g1 h1 g4
end Go.Proofs.YthdfkabdoidjfaaGreatDoor
namespace Go.Proofs.YthdfkabdoidjfaaGreatDoor
open Go.Ab Go.Ax Go.Rx
set_option maxHeartbeats 20000000
set_option maxRecDepth 100000
attribute [local irreducible] Run Ops Op1 z1t Val Tr z11 z1s NF Rel z43 z42 zdd
theorem zm0:∀ {n:Int} {l:List Arc} {p:Option Arc},okA p l→(∀ x∈l,0≤x.1∧x.1≤x.2.1∧x.2.1≤1114111∧0≤x.2.2∧x.2.2<n)→zhj n p l=0
 | n,[],p,_,_=>by cases p <;> rfl
 | n,x::l,p,h,hx=>by
  have h1:=hx x (by simp)
  have hb:¬ zri n x=true:=by
   simp only[zri,Bool.or_eq_true,decide_eq_true_eq,not_or];omega
  have ih:=zm0 h.2.2.2 fun y hy=>hx y (by simp[hy])
  rw[zbk,if_neg hb]
  cases p with
  | none=>exact ih
  | some y =>
   have h2:=h.2.2.1 y rfl
   have hb2:¬ zre y x=true:=by
    simp only[zre,Bool.or_eq_true,Bool.and_eq_true,decide_eq_true_eq,not_or]
    refine⟨by omega,fun g=>h2.2 ⟨by omega,g.2.symm⟩⟩
   simp only
   rw[if_neg hb2];exact ih
theorem zja {n:Int}:∀ {A:List (List Arc)},(∀ l∈A,zhj n none l=0)→zcc n A=0
 | [],_=>rfl
 | l::A,h=>by
  rw[zcc,if_neg (by rw[h l (by simp)];simp)]
  exact zja fun m hm=>h m (by simp[hm])
theorem zvj {a:Au} (h:AuW a) (hn:a.F.length≤256):vAu a=0:=by
 have:=h.pos
 have:=h.len
 rw[vAu,if_neg (by omega),if_neg (by omega)]
 exact zja fun l hl=>zm0 (h.arc l hl).1 (h.arc l hl).2
theorem zzr {x y:Operand} (r:Arc) (w:World) (own:Nat→Prop) (us vs:List Value) (hu:DR w own (.agg (z2r r)) (.agg us.toArray)) (hv:DR w own (.agg (z2r r)) (.agg vs.toArray)) :
 (do eqGuard .neq 38 x y (.agg us.toArray) (.agg vs.toArray);binOp .neq 38 (.agg us.toArray) (.agg vs.toArray):Sem Value).run Tryz.prog w=.ok (.bool false) w:=by
 have e1:=DR.lits (xs:=[.int .i32 r.1,.int .i32 r.2.1,.int .i64 r.2.2]) hu
 have e2:=DR.lits (xs:=[.int .i32 r.1,.int .i32 r.2.1,.int .i64 r.2.2]) hv
 subst e1 e2
 have hf:(Tryz.prog.fieldsOf 38).toList.map (fun f=>(f.name == "_",f.type,f.offset))=[(false,21,0),(false,21,1),(false,3,2)]:=by kernel_rfl
 have hu:Tryz.prog.underlying 38=some (.struct (Tryz.prog.fieldsOf 38)):=by kernel_rfl
 have hs:Tryz.prog.stoodInHeld 38=false:=by kernel_rfl
 have hg:Tryz.prog.eqGuardType Tryz.prog.depth 38=false:=by kernel_rfl
 have hint:Tryz.prog.underlying 21=some (.int .i32):=T21.int rfl
 have hint3:Tryz.prog.underlying 3=some (.int .i64):=T3.int rfl
 have ha3:∀ w,(isAgg 21).run Tryz.prog w=.ok false w:=fun w=>T21.isAgg w
 have ha4:∀ w,(isAgg 3).run Tryz.prog w=.ok false w:=fun w=>T3.isAgg w
 rw[Sem.run_bind,run_eqGuard_agg _ _ _ _ _ _ _ hg,Result.andThen_ok,run_neq_struct,run_equalIn_struct w 9999 38 _ _ hu hs]
 generalize (Tryz.prog.fieldsOf 38).toList=fs at hf
 obtain⟨f1,f2,f3,rfl⟩:∃ f1 f2 f3,fs=[f1,f2,f3]:=by
  have hl:=congrArg List.length hf
  simp only[List.length_map,List.length_cons,List.length_nil] at hl
  match fs,hl with
  | [a,b,c],_=>exact⟨a,b,c,rfl⟩
 simp only[List.map_cons,List.map_nil,List.cons.injEq,Prod.mk.injEq,beq_eq_false_iff_ne,ne_eq,and_true] at hf
 obtain⟨⟨n1,t1,o1⟩,⟨n2,t2,o2⟩,n3,t3,o3⟩:=hf
 simp only[Op.eqFields,n1,n2,n3,ne_eq,not_false_eq_true,if_true,t1,t2,t3,o1,o2,o3,part,Sem.run_bind,ha3,ha4,Result.andThen_ok,Bool.false_eq_true,if_false]
 simp[run_equalIn_int _ _ _ _ _ _ _ hint,run_equalIn_int _ _ _ _ _ _ _ hint3]
theorem zwj (a:Au) (hf:zgc a):z11 Tryz.prog 23 [.d (auD a),.d (auD a)] (B true):=by
 refine z1j fun H=>?_
 obtain⟨F,A⟩:=a
 obtain⟨f1,f2,f3⟩:=hf
 simp only at f1 f2 f3
 refine z0j Tryz.func23 (by kernel_rfl) rfl (by simp) ?_
 dsimp only[Tryz.f23]
 repeat' (first|(apply z07;(first|refine z0o ?_| (apply z06;(refine z02 z1c rfl rfl ?_))|(apply z0d;(refine z02 z0i rfl rfl ?_))|(apply z10;(refine z02 (z1f rfl) rfl rfl ?_))|(apply z1p;(refine z05 z22 ?_))))|(apply z09;(first|refine z0n ?_|apply z0a|refine z29 ?_| refine z86 rfl rfl (fun _=>?_) (fun _=>?_)))|(apply z08;(first|apply z0b|apply z00|refine z1i ?_| apply z04|apply z01|refine z56 rfl (fun _=>?_) (fun _=>?_))))
 all_goals try (exfalso;first|omega|(simp at *;done))
 refine z1g ?_
 refine z0f (z2i (fun q:Nat=>⟨89,[(2,.ptr (0,2) 0),(3,.ptr (0,3) 0),(4,B false),(26,I .i64 F.length),(27,I .i64 (q:Nat))],[(2,.box [.d (zhq F),.d (.slice (A.map z4v))]),(3,.box [.d (zhq F),.d (.slice (A.map z4v))])],H⟩) (fun q=>q≤F.length) (fun q=>F.length-q) ?_ 0 (Nat.zero_le _)) rfl rfl
 intro i hi ih
 by_cases hlt:i<F.length
 · obtain⟨b,hb⟩:∃ b,F[i]? =some b:=⟨_,List.getElem?_eq_getElem hlt⟩
   have ih':=ih (i+1) (by omega) (by omega)
   cases b
   all_goals repeat' (first|(apply z07;(first|refine z0o ?_| (apply z06;(refine z02 z1c rfl rfl ?_))|(apply z0d;(refine z02 z0i rfl rfl ?_))|(apply z0y;(refine z02 (z0v z1e) rfl rfl ?_))|(apply z10;(refine z02 (z1f rfl) rfl rfl ?_))))|(apply z09;(first|refine z0n ?_|apply z0a))|(apply z08;(first|apply z0b|apply z00|refine z14 ?_| apply z04|apply z01|apply z38|apply z03|refine z0h (fun _=>?_) (fun _=>?_)| refine z0m ?_))|(apply z34;(first|(apply z1a;refine z1q mix ?_)|refine z3a ?_| (apply z0s;(first|refine z0l z1c rfl rfl ?_| refine z0l z2d rfl rfl ?_))|(apply z0p;(refine z0l z0i rfl rfl ?_))|(apply z15;(refine z0l (z1x (ys:=F.map boc) rfl (idx (g:=boc) hb)) rfl rfl ?_))|(apply z1z;(refine z0l (zfh rfl) rfl rfl ?_)))))
   all_goals try (exfalso;first|omega|(simp at *;done))
   all_goals exact z0f ih' rfl rfl
 · obtain rfl:i=F.length:=by omega
   clear ih
   repeat' (first|(apply z07;(first|refine z0o ?_| (apply z06;(refine z02 z1c rfl rfl ?_))|(apply z0d;(refine z02 z0i rfl rfl ?_))|(apply z10;(refine z02 (z1f rfl) rfl rfl ?_))))|(apply z09;(first|refine z0n ?_|apply z0a))|(apply z08;(first|apply z0b|apply z00|apply z04|apply z01|apply z38|refine z0h (fun _=>?_) (fun _=>?_)| refine z0m ?_))|(apply z34;(first|refine z3a ?_| (apply z0s;(refine z0l z1c rfl rfl ?_))|(apply z0p;(refine z0l z0i rfl rfl ?_)))))
   all_goals try (exfalso;omega)
   refine z1g ?_
   refine z0f (z2i (fun q:Nat=>⟨89,[(2,.ptr (0,2) 0),(3,.ptr (0,3) 0),(4,B false),(44,I .i64 A.length),(45,I .i64 (q:Nat))],[(2,.box [.d (zhq F),.d (.slice (A.map z4v))]),(3,.box [.d (zhq F),.d (.slice (A.map z4v))])],H⟩) (fun q=>q≤A.length) (fun q=>A.length-q) ?_ 0 (Nat.zero_le _)) rfl rfl
   intro j hj ih
   by_cases hjt:j<A.length
   · obtain⟨l,hl⟩:∃ l,A[j]? =some l:=⟨_,List.getElem?_eq_getElem hjt⟩
     have hll:=f3 l (List.mem_of_getElem? hl)
     have ih':=ih (j+1) (by omega) (by omega)
     repeat' (first|(apply z07;(first|refine z0o ?_| (apply z06;(first|refine z02 z1c rfl rfl ?_| refine z02 z2d rfl rfl ?_))|(apply z0d;(refine z02 z0i rfl rfl ?_))|(apply z0g;(refine z02 (z1x (ys:=A.map z4v) rfl (idx (g:=z4v) hl)) rfl rfl ?_))|(apply z10;(refine z02 (z1f rfl) rfl rfl ?_))))|(apply z09;(first|refine z0n ?_|apply z0a))|(apply z08;(first|apply z0b|apply z00|apply z04|apply z01|apply z38|refine z0h (fun _=>?_) (fun _=>?_)| refine z56 rfl (fun _=>?_) (fun _=>?_)|refine z0m ?_))|(apply z34;(first|(apply z1a;refine z1q mix ?_)|refine z3a ?_| (apply z0s;(first|refine z0l z1c rfl rfl ?_| refine z0l z2d rfl rfl ?_))|(apply z0p;(refine z0l z0i rfl rfl ?_))|(apply z15;(refine z0l (z1x (ys:=A.map z4v) rfl (idx (g:=z4v) hl)) rfl rfl ?_))|(apply z5i;(refine z0l (z1f rfl) rfl rfl ?_)))))
     all_goals try (exfalso;first|omega|(simp at *;done))
     refine z1g ?_
     refine z0f (z2i (fun q:Nat=>⟨89,[(2,.ptr (0,2) 0),(3,.ptr (0,3) 0),(4,B false),(6,I .i64 (j:Nat)),(44,I .i64 A.length),(45,I .i64 (j:Nat)),(66,I .i64 l.length),(67,I .i64 (q:Nat))],[(2,.box [.d (zhq F),.d (.slice (A.map z4v))]),(3,.box [.d (zhq F),.d (.slice (A.map z4v))])],H⟩) (fun q=>q≤l.length) (fun q=>l.length-q) ?_ 0 (Nat.zero_le _)) rfl rfl
     intro k hk ihk
     by_cases hkt:k<l.length
     · obtain⟨x,hx⟩:∃ x,l[k]? =some x:=⟨_,List.getElem?_eq_getElem hkt⟩
       have ihk':=ihk (k+1) (by omega) (by omega)
       repeat' (first|(apply z07;(first|refine z0o ?_| (apply z0y;(refine z02 (z0v z1e) rfl rfl ?_))))|(apply z09;(first|refine z0n ?_|apply z0a))|(apply z08;(first|apply z0b|apply z00|refine z14 ?_| apply z04|apply z01|apply z38|apply z03|refine z0h (fun _=>?_) (fun _=>?_)| refine z0m ?_))|(apply z34;(first|(apply z1a;refine z1q mix ?_)|refine z3a ?_| (apply z0s;(first|refine z0l z1c rfl rfl ?_| refine z0l z2d rfl rfl ?_| refine z0l z1u rfl rfl ?_))|(apply z0p;(refine z0l z0i rfl rfl ?_))|(apply z15;(first|refine z0l (z1x (ys:=A.map z4v) rfl (idx (g:=z4v) hl)) rfl rfl ?_| refine z0l (z1x (ys:=l.map z2r) rfl (idx (g:=z2r) hx)) rfl rfl ?_))|(apply z1z;(refine z0l (zyg (op:=.neq) (tx:=38) (zzr x)) rfl rfl ?_)))))
       all_goals try (exfalso;first|omega|(simp at *;done))
       all_goals exact z0f ihk' rfl rfl
     · obtain rfl:k=l.length:=by omega
       clear ihk
       repeat' (first|(apply z07;(first|refine z0o ?_| (apply z0y;(refine z02 (z0v z1e) rfl rfl ?_))))|(apply z09;(first|refine z0n ?_|apply z0a))|(apply z08;(first|apply z0b|apply z00|apply z04|apply z01|apply z38|apply z03|refine z0h (fun _=>?_) (fun _=>?_)| refine z0m ?_))|(apply z34;(first|refine z3a ?_| (apply z0s;(refine z0l z1c rfl rfl ?_))|(apply z0p;(refine z0l z0i rfl rfl ?_)))))
       all_goals try (exfalso;omega)
       all_goals exact z0f ih' rfl rfl
   · obtain rfl:j=A.length:=by omega
     clear ih
     repeat' (first|(apply z07;(refine z0o ?_))|(apply z09;(first|refine z0n ?_|apply z0a))|(apply z08;(first|apply z0b|apply z00|apply z04|apply z01|apply z38|refine z0h (fun _=>?_) (fun _=>?_)| refine z0m ?_))|(apply z34;(first|refine z3a ?_| (apply z0s;(refine z0l z1c rfl rfl ?_))|(apply z0p;(refine z0l z0i rfl rfl ?_)))))
     all_goals try (exfalso;omega)
     all_goals exact z0k Tryz.func23 _ z19 ⟨rfl,rfl⟩
end Go.Proofs.YthdfkabdoidjfaaGreatDoor
namespace Go.Proofs.YthdfkabdoidjfaaGreatDoor
open Go.Ab Go.Ax Go.Rx
set_option maxHeartbeats 20000000
set_option maxRecDepth 100000
attribute [local irreducible] Run Ops Op1 z1t Val Tr z11 z1s NF Rel z43 z42 zdd
theorem ztq (τ:Tab) (a:Au) (hf:zgc a) (s:ByteArray) (hs:s.size≤maxLen):z1s Tryz.prog 8 [.d (auD a),S s] (zeh τ 0) [] (B true):=by
 refine z2g fun H hH=>?_
 have hX0:=hH ((0,700),.glob 0 τ.o0) (by simp)
 have hX1:=hH ((0,701),.glob 1 τ.o1) (by simp)
 have haw:=ztv τ
 have hlg:=zt4 20 (by omega) [a] (by simp) (by simpa using hf)
 have hany:[a].any (lgA 20)=lgA 20 a:=by simp
 rw[hany] at hlg
 have hmax:maxLen≤9223372036854775807:=by simp[maxLen]
 by_cases hb:lgA 20 a=true
 · rw[hb] at hlg
   obtain⟨F,A⟩:=a
   refine z0j Tryz.func8 (by kernel_rfl) rfl (by simp) ?_
   dsimp only[Tryz.f8]
   refine z5k 700 0 700 hX0 rfl rfl ?_
   refine z5k 701 0 701 (z18 hX1 (by simp)) rfl rfl ?_
   repeat' (first|(apply z07;(first|refine z0o ?_| (apply z06;(refine z02 z3q rfl rfl ?_))|(apply z0t;(refine z1h hlg ?_))|(apply z1p;(refine z05 z22 ?_))|(apply z1v;(refine z2b rfl ?_))))|(apply z09;(first|refine z0n ?_|apply z0a|refine z29 ?_))|(apply z08;(first|apply z0b|apply z00|refine z1i ?_)))
   all_goals try (exfalso;first|omega|(simp at *;done))
   all_goals refine z4j 700 0 700 (raw:=.glob 0 τ.o0) rfl rfl (z18 (z2w _ (0,700) _) (by simp)) rfl rfl ?_
   all_goals refine z4j 701 0 701 (raw:=.glob 1 τ.o1) rfl rfl (z18 (z2w _ (0,701) _) (by simp)) rfl rfl ?_
   all_goals exact z0k Tryz.func8 _ z19 ⟨rfl,z6w hX0 hX1⟩
 have hsm:=zvt hb hf
 rw[Bool.not_eq_true] at hb
 rw[hb] at hlg
 by_cases h60:40<s.size
 · obtain⟨F,A⟩:=a
   refine z0j Tryz.func8 (by kernel_rfl) rfl (by simp) ?_
   dsimp only[Tryz.f8]
   refine z5k 700 0 700 hX0 rfl rfl ?_
   refine z5k 701 0 701 (z18 hX1 (by simp)) rfl rfl ?_
   repeat' (first|(apply z07;(first|refine z0o ?_| (apply z06;(refine z02 z3q rfl rfl ?_))|(apply z10;(refine z02 (z6v rfl) rfl rfl ?_))|(apply z0t;(refine z1h hlg ?_))|(apply z1p;(refine z05 z22 ?_))|(apply z1v;(refine z2b rfl ?_))))|(apply z09;(first|refine z0n ?_|apply z0a))|(apply z08;(first|apply z0b|apply z00|apply z04|refine z0h (fun _=>?_) (fun _=>?_))))
   all_goals try (exfalso;first|omega|(simp at *;done))
   all_goals refine z4j 700 0 700 (raw:=.glob 0 τ.o0) rfl rfl (z18 (z2w _ (0,700) _) (by simp)) rfl rfl ?_
   all_goals refine z4j 701 0 701 (raw:=.glob 1 τ.o1) rfl rfl (z18 (z2w _ (0,701) _) (by simp)) rfl rfl ?_
   all_goals exact z0k Tryz.func8 _ z19 ⟨rfl,z6w hX0 hX1⟩
 by_cases hv:vAu a=0
 · have hW:=zvk hv
   have hn:=(ze8 hv).few
   obtain⟨g1,g2,g3,g4,g5⟩:=zb6 hW hn
   have hmm:=zu1 hW hn
   have m1:=z9h a hf hv (znl hW hn) g5
   have hvm:=zvj g2 (by omega)
   have hfm:=zv6 hvm
   obtain⟨k1,k2,k3,k4,k5⟩:=zb6 g2 (by omega)
   have m2:=z9h (zdh a) hfm hvm (znl g2 (by omega)) k5
   rw[hmm] at m2
   have hval:=z9k (zdh a) hfm
   rw[hvm] at hval
   have hsame:=zwj (zdh a) hfm
   have r1:=zpp a hf (fun l hl=>by have:=hsm l hl;omega) s (by omega)
   have r2:=zpp (zdh a) hfm (fun l hl=>by have:=(z9i hvm).2 l hl;omega) s (by omega)
   have hr:zqf (zdh a) s=zqf a s:=by rw[zqf,zqf,hv,hvm,g4]
   rw[hr] at r2
   generalize zqf a s=r at *
   clear k1 k2 k3 k4 k5 hmm g1 g2 g4 g5 hr
   generalize zdh a=m at *
   obtain⟨F,A⟩:=a
   obtain⟨G,C⟩:=m
   simp only at g3
   refine z0j Tryz.func8 (by kernel_rfl) rfl (by simp) ?_
   dsimp only[Tryz.f8]
   refine z5k 700 0 700 hX0 rfl rfl ?_
   refine z5k 701 0 701 (z18 hX1 (by simp)) rfl rfl ?_
   cases r
   all_goals repeat' (first|(apply z07;(first|refine z0o ?_| (apply z06;(first|refine z02 z3q rfl rfl ?_| refine z02 z23 rfl rfl ?_))|(apply z10;(refine z02 (z6v rfl) rfl rfl ?_))|(apply z0t;(first|refine z1h m1 ?_| refine z1h m2 ?_| refine z1h hlg ?_))|(apply z0c;(refine z1r ?_))|(apply z0e;(refine z05 z2e ?_))|(apply z1p;(refine z05 z22 ?_))|(apply z1v;(refine z2b rfl ?_))))|(apply z09;(first|refine z0n ?_|apply z0a))|(apply z08;(first|apply z0b|apply z00|refine z14 ?_| apply z04|apply z38|refine z0h (fun _=>?_) (fun _=>?_)))|(apply z34;(first|(apply z1a;refine z1q mix ?_)|refine z36 ?_| refine z3a ?_| (apply z0s;(first|refine z0l z3q rfl rfl ?_| refine z0l z1c rfl rfl ?_| refine z0l z23 rfl rfl ?_))|(apply z0p;(refine z0l z0i rfl rfl ?_))|(apply z1z;(refine z0l (zw5 rfl) rfl rfl ?_))|(apply z5i;(refine z0l (z1f rfl) rfl rfl ?_))|(apply z3k;(first|refine zla haw (by first|exact rfl|exact⟨_,rfl,rfl,rfl⟩) rfl rfl (by decide) ?_|refine z5y hval ?_| refine z5y hsame ?_| refine z5y r1 ?_| refine z5y r2 ?_))|(refine z1o rfl rfl (fun hg=>?_) (fun hg=>?_) <;> simp only[hg] <;> (try simp only[decide_eq_true_eq,decide_eq_false_iff_not,Bool.not_eq_true',Bool.not_eq_false'] at hg)))))
   all_goals try (exfalso;first|omega|(simp at *;done))
   all_goals refine z4j 700 0 700 (raw:=.glob 0 τ.o0) rfl rfl (z18 (z2w _ (0,700) _) (by simp)) rfl rfl ?_
   all_goals refine z4j 701 0 701 (raw:=.glob 1 τ.o1) rfl rfl (z18 (z2w _ (0,701) _) (by simp)) rfl rfl ?_
   all_goals exact z0k Tryz.func8 _ z19 ⟨rfl,z6w hX0 hX1⟩
 · have m1:=zeq a hf hv
   obtain⟨F,A⟩:=a
   refine z0j Tryz.func8 (by kernel_rfl) rfl (by simp) ?_
   dsimp only[Tryz.f8]
   refine z5k 700 0 700 hX0 rfl rfl ?_
   refine z5k 701 0 701 (z18 hX1 (by simp)) rfl rfl ?_
   repeat' (first|(apply z07;(first|refine z0o ?_| (apply z06;(refine z02 z3q rfl rfl ?_))|(apply z10;(refine z02 (z6v rfl) rfl rfl ?_))|(apply z0t;(first|refine z3c haw rfl rfl (by decide) ?_|refine z1h m1 ?_| refine z1h hlg ?_))|(apply z0c;(refine z1r ?_))|(apply z0e;(refine z05 z2e ?_))|(apply z1p;(refine z05 z22 ?_))|(apply z1v;(refine z2b rfl ?_))))|(apply z09;(first|refine z0n ?_|apply z0a))|(apply z08;(first|apply z0b|apply z00|refine z1i ?_| apply z04|refine z0h (fun _=>?_) (fun _=>?_))))
   all_goals try (exfalso;first|omega|(simp at *;done))
   all_goals refine z4j 700 0 700 (raw:=.glob 0 τ.o0) rfl rfl (z18 (z2w _ (0,700) _) (by simp)) rfl rfl ?_
   all_goals refine z4j 701 0 701 (raw:=.glob 1 τ.o1) rfl rfl (z18 (z2w _ (0,701) _) (by simp)) rfl rfl ?_
   all_goals exact z0k Tryz.func8 _ z19 ⟨rfl,z6w hX0 hX1⟩
end Go.Proofs.YthdfkabdoidjfaaGreatDoor
