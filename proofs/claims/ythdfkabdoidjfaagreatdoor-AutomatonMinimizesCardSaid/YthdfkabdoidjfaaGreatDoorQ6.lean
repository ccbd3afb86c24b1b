/- A part of the proof: A32, A33, A34, A35, A36, A37, A39. -/
import Derived.Test.YthdfkabdoidjfaaGreatDoorQ5
import Derived.Test.YthdfkabdoidjfaaGreatDoorQ1
import Derived.Test.YthdfkabdoidjfaaGreatDoorQ8
import Derived.Test.YthdfkabdoidjfaaGreatDoorQs
import Derived.Test.YthdfkabdoidjfaaGreatDoorQz
import Derived.Test.YthdfkabdoidjfaaGreatDoorQy
import Derived.Test.YthdfkabdoidjfaaGreatDoorQ9
set_option linter.all false
set_option linter.unusedVariables false
set_option linter.unusedSimpArgs false
namespace Go.Proofs.YthdfkabdoidjfaaGreatDoor
open Go.Ab Go.Ax Go.Rx
set_option maxHeartbeats 20000000
set_option maxRecDepth 100000
def zvy (x:Int):List Int→List Int
 | []=>[x]
 | y::l=>if x≤y then x::y::l else y::zvy x l
def zyf:List Int→List Int
 | []=>[]
 | x::l=>zvy x (zyf l)
theorem zcy (x:Int):∀ l:List Int,(zvy x l).Perm (x::l)
 | []=>List.Perm.refl _
 | y::l=>by
  rw[zvy]
  split
  · exact List.Perm.refl _
  · exact((zcy x l).cons y).trans (List.Perm.swap x y l)
theorem zgy:∀ l:List Int,(zyf l).Perm l
 | []=>List.Perm.refl _
 | x::l=>(zcy x (zyf l)).trans ((zgy l).cons x)
theorem zky (x:Int):∀ l:List Int,l.Pairwise (· ≤·)→(zvy x l).Pairwise (· ≤·)
 | [],_=>by simp[zvy]
 | y::l,h=>by
  rw[zvy]
  rw[List.pairwise_cons] at h
  split
  · rename_i hx
    refine List.pairwise_cons.2 ⟨fun z hz=>?_,List.pairwise_cons.2 h⟩
    rcases List.mem_cons.1 hz with rfl|hz
    · exact hx
    · have:=h.1 z hz;omega
  · rename_i hx
    refine List.pairwise_cons.2 ⟨fun z hz=>?_,zky x l h.2⟩
    rcases List.mem_cons.1 ((zcy x l).mem_iff.1 hz) with rfl|hz
    · omega
    · exact h.1 z hz
theorem zl8:∀ l:List Int,(zyf l).Pairwise (· ≤·)
 | []=>by simp[zyf]
 | x::l=>zky x _ (zl8 l)
theorem zs2 (l:List Int):Go.Ax.srt l=zyf l:=zup (zgy l).symm (zl8 l)
def zpt (L:List (List Rg)):List Int:=cpt (zyf (z68 L))
theorem zug (L:List (List Rg)):z8y L=zpt L:=by rw[z8y,zs2];rfl
theorem zxg (N:Nat) (lv:List (List Rg)):zdg N lv=(List.range ((zpt (z9z N 0 lv)).length-1)).filterMap (cE N lv (zpt (z9z N 0 lv))):=by
 rw[zdg,zgs,zug]
theorem zxs (op:Int) (l m:List Arc):zd8 op l m=(List.range ((zpt [z4j l,z4j m]).length-1)).filterMap (prE op l m (zpt [z4j l,z4j m])):=by
 rw[zd8,z7n,zug]
abbrev eS:Rx:=.mk 4 0 (-1) [] [.mk 2 0 0 [] [.mk 1 0 0 [(97,97)] [],.mk 1 0 0 [(98,98)] []]]
abbrev cA:Au:=⟨[true,false,true],[[(97,97,1)],[(98,98,2)],[(97,97,1)]]⟩
abbrev mA:Au:=⟨[true,false],[[(97,97,1)],[(98,98,0)]]⟩
abbrev pA:Au:=⟨[false,true,true,false],[[(0,96,1),(97,97,2),(98,1114111,1)],[(0,1114111,1)],[(0,97,1),(98,98,3),(99,1114111,1)],[(0,96,1),(97,97,2),(98,1114111,1)]]⟩
abbrev nA:Au:=⟨[false,true,true],[[(0,96,1),(97,97,2),(98,1114111,1)],[(0,1114111,1)],[(0,97,1),(98,98,0),(99,1114111,1)]]⟩
theorem zyr:bd eS tb0=(⟨[[(97,97)],[(98,98)]],[2,1]⟩,⟨1,2,true⟩):=by rfl
theorem zzp:zsu eS=some cA:=by
 rw[zsu,zss]
 simp only[zxg,zyr]
 kernel_rfl
theorem zuh:zh7 zv0.F cA.F zv0.A cA.A 3=some pA:=by
 rw[zh7]
 simp only[zxs]
 kernel_rfl
theorem zr0:z6z cA.F cA.A=some cA:=by kernel_rfl
theorem zq4 {F:List Bool} {A:List (List Arc)} (h:∀ q:Nat,q<F.length→z5z F A q):z6d F A=F.map fun _=>true:=by
 rw[z6d]
 refine List.ext_getElem (by simp) fun i h1 h2=>?_
 simp only[List.getElem_map,List.getElem_range]
 simp at h1
 have h2:=h i h1
 rw[← List.getElem_range (n:=F.length) (j:=i) (by simpa using h1)] at h2
 exact @decide_eq_true _ (_) h2
theorem zya {F:List Bool} {A:List (List Arc)} (h:∀ q:Nat,q<F.length→z5z F A q):cl0 F A=F.map fun b=>if b=true then 1 else 0:=by
 rw[cl0,zq4 h]
 refine List.ext_getElem (by simp) fun i h1 h2=>?_
 simp at h1
 simp[h1]
theorem zom {F:List Bool} {A:List (List Arc)} (h:∀ q:Nat,q<F.length→z5z F A q) (lim:Nat):zn2 F A lim=match zib A lim (F.length+1) 0 (F.map fun b=>if b=true then 1 else 0) with
 | none=>none
 | some cl=>if cl.getD 0 0<0 then some ⟨[false],[[]]⟩ else y1h F A cl lim:=by
 rw[zn2,zvo,zya h]
 generalize zib A lim (F.length+1) 0 (F.map fun b=>if b=true then 1 else 0)=o
 cases o <;> rfl
theorem y3b:∀ q:Nat,q<cA.F.length→z5z cA.F cA.A q:=fun q hq=>by
 have:q=0∨q=1∨q=2:=by simp at hq;omega
 have l2:z5z cA.F cA.A 2:=.fin 2 rfl
 rcases this with rfl|rfl|rfl
 · exact .fin 0 rfl
 · exact .arc 1 [(98,98,2)] (98,98,2) rfl (by simp) l2
 · exact l2
theorem y2t:∀ q:Nat,q<pA.F.length→z5z pA.F pA.A q:=fun q hq=>by
 have:q=0∨q=1∨q=2∨q=3:=by simp at hq;omega
 have l1:z5z pA.F pA.A 1:=.fin 1 rfl
 rcases this with rfl|rfl|rfl|rfl
 · exact .arc 0 _ (0,96,1) rfl (by simp) l1
 · exact l1
 · exact .fin 2 rfl
 · exact .arc 3 _ (0,96,1) rfl (by simp) l1
theorem y2d:zn2 cA.F cA.A 256=some mA:=by
 rw[zom y3b]
 kernel_rfl
theorem y2a:zn2 pA.F pA.A 256=some nA:=by
 rw[zom y2t]
 kernel_rfl
theorem y2v:val eS=0:=by rfl
theorem y3j:fit eS:=by simp[fit,zyp]
theorem y1x (N:Nat):(z68 (z9z N 0 [[(97,97)],[(98,98)]])).length≤12:=by
 simp only[z9z]
 split <;> split <;> simp[z68,ends]
theorem zqm:∀ {l:List Arc} {p:Option Arc},okA p l→(l.map fun x=>x.1).Pairwise (· <·)
 | [],_,_=>List.Pairwise.nil
 | x::l,p,h=>by
  rw[List.map_cons,List.pairwise_cons]
  refine⟨fun z hz=>?_,zqm h.2.2.2⟩
  obtain⟨e,he,rfl⟩:=List.mem_map.1 hz
  have:=zh9 h.2.2.2 e he
  have:=h.1
  omega
theorem zo3 {l:List Arc} {p:Option Arc} (h:okA p l) (hr:∀ x∈l,0≤x.1∧x.1≤1114111):l.length≤1114112:=by
 have:=zix (B:=1114111) (zqm h) fun z hz=>by
  obtain⟨e,he,rfl⟩:=List.mem_map.1 hz
  have:=hr e he
  omega
 rw[List.length_map] at this
 exact this
theorem zqq {B:Nat}:∀ {A:List (List Arc)},(∀ l∈A,l.length≤B)→(A.map List.length).sum≤A.length*B
 | [],_=>by simp
 | l::A,h=>by
  rw[List.map_cons,List.sum_cons,List.length_cons,Nat.succ_mul]
  have:=h l (by simp)
  have:=zqq (A:=A) fun m hm=>h m (by simp[hm])
  omega
theorem zd7 {a:Au} (h:vAu a=0):zbr a.F a.A∧∀ l∈a.A,l.length≤1114112:=by
 have hv:=zet h
 have hl:∀ l∈a.A,l.length≤1114112:=fun l hl=>zo3 (hv.arc l hl).1 fun x hx=>by have:=(hv.arc l hl).2 x hx;omega
 have hs:=zqq hl
 have h1:=hv.few
 have h2:=hv.len
 have h3:a.A.length*1114112≤256*1114112:=Nat.mul_le_mul_right _ (by omega)
 exact⟨⟨hv.len,fun l h=>⟨(hv.arc l h).1,by have:=hl l h;omega,(hv.arc l h).2⟩,by omega,hv.pos,by omega⟩,hl⟩
theorem zw5 {a:Au} (h:vAu a=0):zei a:=by
 have h1:=(zd7 h).1
 have h2:=h1.len
 have h3:=h1.few
 exact⟨by omega,by omega,fun l hl=>by have:=(zd7 h).2 l hl;omega⟩
theorem okC:zbr cA.F cA.A:=(zd7 (a:=cA) (by kernel_rfl)).1
theorem y2p:zbr pA.F pA.A:=(zd7 (a:=pA) (by kernel_rfl)).1
theorem y26:zbr zv0.F zv0.A:=(zd7 (a:=zv0) (by kernel_rfl)).1
theorem y1g:zei cA:=⟨by decide,by decide,by decide⟩
theorem y0g:zei nA:=⟨by decide,by decide,by decide⟩
theorem zxy:zei zv0:=⟨by decide,by decide,by decide⟩
theorem zwn:z0v Tryz.prog 33 [.d (Drx eS)] (.tup [.d (auD cA),I .i64 0]):=by
 have h:=zqt zjy (by decide) eS y3j y2v (by rw[zyr];exact zyy) (by rw[zyr];decide) (by rw[zyr];decide) (by rw[zyr];decide) (by rw[zyr];exact y1x)
 rw[zzp] at h
 exact h
theorem y1b:z0v Tryz.prog 21 [.d (auD cA)] (.tup [.d (auD mA),I .i64 0]):=by
 have hm:zmt cA=mA:=by rw[zmt,zr0,Option.getD_some,y2d];rfl
 have h:=ze5 cA y1g (by kernel_rfl) okC (by rw[zr0];exact okC)
 rw[hm] at h
 exact h
theorem zzg:z0v Tryz.prog 26 [.d (auD cA)] (.tup [.d (auD nA),I .i64 0]):=by
 have h:=y2w zjy (by decide) zv0 cA 3 zxy y1g (by kernel_rfl) (by kernel_rfl) (by decide) (by decide) y26 okC (n:=1) (m:=1) (by decide) (by decide) (by decide) (fun x hx=>by rw[zuh] at hx;simp only[Option.some.injEq] at hx;rw[← hx];exact y2p)
 rw[y1z,zuh,Option.bind_some,y2a] at h
 exact zye cA ⟨nA,0,rfl⟩ h
theorem y11:y1n nA ⟨#[97]⟩=true:=by kernel_rfl
theorem y0o:y1n nA ⟨#[]⟩=false:=by kernel_rfl
attribute [local irreducible] Run Ops Op1 z2b Val Tr z0v z2c NF Rel z3w z3x ze4
theorem zwz (τ:Tab):z2c Tryz.prog 18 [] (zfl τ 0) [] (B true):=by
 refine z2n fun H hH=>?_
 have hX0:=hH ((0,700),.glob 0 τ.o0) (by simp)
 have hX1:=hH ((0,701),.glob 1 τ.o1) (by simp)
 have p1:=zs4 τ
 have q1:=zwn
 have q2:=y1b
 have q3:=zzg
 have q4:=y0y nA y0g (by decide) ⟨#[97]⟩ (by decide)
 have q5:=y0y nA y0g (by decide) ⟨#[]⟩ (by decide)
 rw[y11] at q4
 rw[y0o] at q5
 refine z0k Tryz.func18 (by kernel_rfl) rfl (by simp) ?_
 dsimp only[Tryz.f18]
 refine z74 700 0 700 hX0 rfl rfl ?_
 refine z74 701 0 701 (z1l hX1 (by simp)) rfl rfl ?_
 repeat' (first|(apply z05;(first|refine z0o ?_| (apply z09;(first|refine z02 z1d rfl rfl ?_| refine z02 z1p rfl rfl ?_| refine z02 z1z rfl rfl ?_))|(apply z0d;(refine z02 z0i rfl rfl ?_))|(apply z0f;(refine z02 (zaf rfl (by decide) rfl rfl) rfl rfl ?_))|(apply z0t;(refine z02 (z1b rfl) rfl rfl ?_))|(apply z0u;(first|refine z3i p1 rfl rfl (by decide) ?_|refine z1j q1 ?_| refine z1j q2 ?_| refine z1j q3 ?_| refine z1j q4 ?_| refine z1j q5 ?_))|(apply z0c;(refine z23 ?_))|(apply z0h;(refine z0b z2i ?_))))|(apply z08;(first|refine z0n ?_|apply z07))|(apply z06;(first|apply z0a|apply z00)))
 all_goals try (exfalso;first|omega|(simp at *;done))
 all_goals refine z4z 700 0 700 (raw:=.glob 0 τ.o0) rfl rfl (z1l (z3q _ (0,700) _) (by simp)) rfl rfl ?_
 all_goals refine z4z 701 0 701 (raw:=.glob 1 τ.o1) rfl rfl (z1l (z3q _ (0,701) _) (by simp)) rfl rfl ?_
 all_goals exact z0l Tryz.func18 _ z16 ⟨rfl,z9k hX0 hX1⟩
end Go.Proofs.YthdfkabdoidjfaaGreatDoor
namespace Go.Proofs.YthdfkabdoidjfaaGreatDoor
open Go.Ab Go.Ax Go.Rx
set_option maxHeartbeats 20000000
set_option maxRecDepth 100000
attribute [local irreducible] Run Ops Op1 z2b Val Tr z0v z2c NF Rel z3w z3x ze4
def lgA (n:Int) (a:Au):Bool:=decide (n<a.F.length)||decide (n+1<a.A.length)||a.A.any fun l=>decide (12<l.length)
theorem zy1 (n:Int) (hn:0≤n∧n≤1000) (L:List Au) (hl:L.length≤10) (hf:∀ a∈L,zei a):z0v Tryz.prog 15 [I .i64 n,.d (.slice (L.map auc))] (B (L.any (lgA n))):=by
 refine z1e fun H=>?_
 refine z0k Tryz.func15 (by kernel_rfl) rfl (by simp) ?_
 dsimp only[Tryz.f15]
 repeat' (first|(apply z05;(first|refine z0o ?_| (apply z0t;(refine z02 (z1b rfl) rfl rfl ?_))))|(apply z08;(first|refine z0n ?_|apply z07))|(apply z06;(first|apply z0a|apply z00|apply z01)))
 all_goals try (exfalso;omega)
 refine z1a ?_
 refine z0e (z1y (fun q:Nat=>⟨40,[(0,I .i64 n),(4,B false),(9,.d (.slice (L.map auc))),(10,I .i64 L.length),(11,I .i64 (q:Nat))],[],H⟩) (fun q=>q≤L.length∧(L.drop q).any (lgA n)=L.any (lgA n)) (fun q=>L.length-q) ?_ 0 ⟨Nat.zero_le _,rfl⟩) rfl rfl
 intro i ⟨i1,i2⟩ ih
 by_cases hlt:i<L.length
 · obtain⟨a,ha⟩:∃ a,L[i]? =some a:=⟨_,List.getElem?_eq_getElem hlt⟩
   have hfa:=hf a (List.mem_of_getElem? ha)
   rw[drop_cons ha,List.any_cons,lgA] at i2
   obtain⟨f1,f2,f3⟩:=hfa
   by_cases h1:n<a.F.length
   · rw[decide_eq_true h1,Bool.true_or,Bool.true_or,Bool.true_or] at i2
     rw[← i2]
     repeat' (first|(apply z05;(first|refine z0o ?_| (apply z09;(first|refine z02 z1d rfl rfl ?_| refine z02 z27 rfl rfl ?_))|(apply z0d;(refine z02 z0i rfl rfl ?_))|(apply z0f;(refine z02 (z1i (ys:=L.map auc) rfl (idx (g:=auc) ha)) rfl rfl ?_))|(apply z0p;(refine z02 (z0q z1c) rfl rfl ?_))|(apply z0t;(refine z02 (z1b rfl) rfl rfl ?_))|(apply z0c;(refine z23 ?_))|(apply z0h;(refine z0b z2i ?_))))|(apply z08;(first|refine z0n ?_|apply z07|refine z1r ?_| refine z2h (fun _=>?_) (fun _=>?_)))|(apply z06;(first|apply z0a|apply z00|refine z1h ?_| apply z04|apply z01|refine z0g (fun _=>?_) (fun _=>?_)| refine z0j ?_)))
     all_goals try (exfalso;omega)
     all_goals exact z0l Tryz.func15 _ z16 ⟨rfl,rfl⟩
   by_cases h2:n+1<a.A.length
   · rw[decide_eq_true h2,Bool.or_true,Bool.true_or,Bool.true_or] at i2
     rw[← i2]
     repeat' (first|(apply z05;(first|refine z0o ?_| (apply z09;(first|refine z02 z1d rfl rfl ?_| refine z02 z27 rfl rfl ?_))|(apply z0d;(refine z02 z0i rfl rfl ?_))|(apply z0f;(refine z02 (z1i (ys:=L.map auc) rfl (idx (g:=auc) ha)) rfl rfl ?_))|(apply z0p;(refine z02 (z0q z1c) rfl rfl ?_))|(apply z0t;(refine z02 (z1b rfl) rfl rfl ?_))|(apply z0c;(refine z23 ?_))|(apply z0h;(refine z0b z2i ?_))))|(apply z08;(first|refine z0n ?_|apply z07|refine z1r ?_| refine z2h (fun _=>?_) (fun _=>?_)))|(apply z06;(first|apply z0a|apply z00|refine z1h ?_| apply z04|apply z01|refine z0g (fun _=>?_) (fun _=>?_)| refine z0j ?_)))
     all_goals try (exfalso;omega)
     all_goals exact z0l Tryz.func15 _ z16 ⟨rfl,rfl⟩
   rw[decide_eq_false h1,decide_eq_false h2,Bool.false_or,Bool.false_or] at i2
   repeat' (first|(apply z05;(first|refine z0o ?_| (apply z09;(first|refine z02 z1d rfl rfl ?_| refine z02 z27 rfl rfl ?_))|(apply z0d;(refine z02 z0i rfl rfl ?_))|(apply z0f;(refine z02 (z1i (ys:=L.map auc) rfl (idx (g:=auc) ha)) rfl rfl ?_))|(apply z0p;(refine z02 (z0q z1c) rfl rfl ?_))|(apply z0t;(refine z02 (z1b rfl) rfl rfl ?_))|(apply z0c;(refine z23 ?_))|(apply z0h;(refine z0b z2i ?_))))|(apply z08;(first|refine z0n ?_|apply z07|refine z1r ?_| refine z2h (fun _=>?_) (fun _=>?_)))|(apply z06;(first|apply z0a|apply z00|refine z1h ?_| apply z04|apply z01|refine z0g (fun _=>?_) (fun _=>?_)| refine z0j ?_)))
   all_goals try (exfalso;omega)
   refine z1a ?_
   refine z0e (z1y (fun q:Nat=>⟨40,[(0,I .i64 n),(4,B false),(9,.d (.slice (L.map auc))),(10,I .i64 L.length),(11,I .i64 (i:Nat)),(29,.d (.slice (a.A.map z4a))),(30,I .i64 a.A.length),(31,I .i64 (q:Nat))],[],H⟩) (fun q=>q≤a.A.length∧(((a.A.drop q).any fun l=>decide (12<l.length))||(L.drop (i+1)).any (lgA n))=L.any (lgA n)) (fun q=>a.A.length-q) ?_ 0 ⟨Nat.zero_le _,i2⟩) rfl rfl
   intro j ⟨j1,j2⟩ ihj
   by_cases hj:j<a.A.length
   · obtain⟨l,hl2⟩:∃ l,a.A[j]? =some l:=⟨_,List.getElem?_eq_getElem hj⟩
     have hll:=f3 l (List.mem_of_getElem? hl2)
     rw[drop_cons hl2,List.any_cons] at j2
     by_cases h3:12<l.length
     · rw[decide_eq_true h3,Bool.true_or,Bool.true_or] at j2
       rw[← j2]
       repeat' (first|(apply z05;(first|refine z0o ?_| (apply z09;(refine z02 z1p rfl rfl ?_))|(apply z0f;(refine z02 (z1i (ys:=a.A.map z4a) rfl (idx (g:=z4a) hl2)) rfl rfl ?_))|(apply z0p;(refine z02 (z0q z1c) rfl rfl ?_))|(apply z0t;(refine z02 (z1b rfl) rfl rfl ?_))))|(apply z08;(first|refine z0n ?_|apply z07))|(apply z06;(first|apply z0a|apply z00|apply z04|apply z01|apply z03|refine z0g (fun _=>?_) (fun _=>?_)| refine z0j ?_)))
       all_goals try (exfalso;omega)
       all_goals exact z0l Tryz.func15 _ z16 ⟨rfl,rfl⟩
     · rw[decide_eq_false h3,Bool.false_or] at j2
       have ih':=ihj (j+1) ⟨by omega,j2⟩ (by omega)
       repeat' (first|(apply z05;(first|refine z0o ?_| (apply z09;(refine z02 z1p rfl rfl ?_))|(apply z0f;(refine z02 (z1i (ys:=a.A.map z4a) rfl (idx (g:=z4a) hl2)) rfl rfl ?_))|(apply z0p;(refine z02 (z0q z1c) rfl rfl ?_))|(apply z0t;(refine z02 (z1b rfl) rfl rfl ?_))))|(apply z08;(first|refine z0n ?_|apply z07))|(apply z06;(first|apply z0a|apply z00|apply z04|apply z01|apply z03|refine z0g (fun _=>?_) (fun _=>?_)| refine z0j ?_)))
       all_goals try (exfalso;omega)
       all_goals exact z0e ih' rfl rfl
   · obtain rfl:j=a.A.length:=by omega
     rw[List.drop_length,List.any_nil,Bool.false_or] at j2
     have ih':=ih (i+1) ⟨by omega,j2⟩ (by omega)
     repeat' (first|(apply z05;(first|refine z0o ?_| (apply z0p;(refine z02 (z0q z1c) rfl rfl ?_))))|(apply z08;(first|refine z0n ?_|apply z07))|(apply z06;(first|apply z0a|apply z00|apply z04|apply z01|apply z03|refine z0g (fun _=>?_) (fun _=>?_)| refine z0j ?_)))
     all_goals try (exfalso;omega)
     all_goals exact z0e ih' rfl rfl
 · obtain rfl:i=L.length:=by omega
   rw[List.drop_length,List.any_nil] at i2
   rw[← i2]
   repeat' (first|(apply z05;(refine z0o ?_))|(apply z08;(first|refine z0n ?_|apply z07))|(apply z06;(first|apply z0a|apply z00|apply z04|apply z01|refine z0g (fun _=>?_) (fun _=>?_)| refine z0j ?_)))
   all_goals try (exfalso;omega)
   all_goals exact z0l Tryz.func15 _ z16 ⟨rfl,rfl⟩
end Go.Proofs.YthdfkabdoidjfaaGreatDoor
namespace Go.Proofs.YthdfkabdoidjfaaGreatDoor
open Go.Ab Go.Ax Go.Rx Go.ChangeShapes Go.WideShapes Go.ChangeAt Go.RowKit
set_option maxHeartbeats 20000000
set_option maxRecDepth 100000
theorem y1j {ds:List D} (h:ShL Tryz.prog [21,21,3] ds):∃ a:Arc,ds=z2l a:=by
 obtain⟨a,_,rfl,h1,b,_,rfl,h2,c,_,rfl,h3,rfl⟩:=h
 obtain⟨x,rfl,_⟩:=h1.inv_int (k:=.i32) (by kernel_rfl)
 obtain⟨y,rfl,_⟩:=h2.inv_int (k:=.i32) (by kernel_rfl)
 obtain⟨z,rfl,_⟩:=h3.inv_int (k:=.i64) (by kernel_rfl)
 exact⟨(x,y,z),rfl⟩
theorem zwm {ds:List D} (h:Sh Tryz.prog 39 ds):∃ l:List Arc,ds=z4a l∧l.length≤9223372036854775807:=by
 obtain⟨l,rfl,hl,_⟩:=h.inv_list (e:=38) z2l (fun _=>True) (by kernel_rfl) fun x hx=>by
  obtain⟨a,rfl⟩:=y1j (hx.inv_fields (ts:=[21,21,3]) (by kernel_rfl))
  exact⟨a,rfl,trivial⟩
 exact⟨l,rfl,hl⟩
theorem zyz {ds:List D} (h:Sh Tryz.prog 22 ds):∃ l:List Bool,ds=[z7a l]∧l.length≤9223372036854775807:=by
 obtain⟨l,rfl,hl,_⟩:=h.inv_list (e:=4) boc (fun _=>True) (by kernel_rfl) fun x hx=>by
  cases hx with
  | bool _ b _=>exact⟨b,rfl,trivial⟩
  | int t k z hu _ _=>exact absurd (hu.symm.trans (show Tryz.prog.underlying 4=some .bool by kernel_rfl)) (by simp)
  | str t z hu _=>exact absurd (hu.symm.trans (show Tryz.prog.underlying 4=some .bool by kernel_rfl)) (by simp)
  | slice t _ _ hu _ _=>exact absurd (hu.symm.trans (show Tryz.prog.underlying 4=some .bool by kernel_rfl)) (by simp)
  | struct t _ _ hu _ _=>exact absurd (hu.symm.trans (show Tryz.prog.underlying 4=some .bool by kernel_rfl)) (by simp)
 exact⟨l,rfl,hl⟩
theorem y37 {ds:List D} (h:ShL Tryz.prog [22,23] ds):∃ a:Au,ds=auc a∧zei a:=by
 obtain⟨a,_,rfl,h1,b,_,rfl,h2,rfl⟩:=h
 obtain⟨F,rfl,hF⟩:=zyz h1
 obtain⟨A,rfl,hA,hl⟩:=h2.inv_list (e:=39) z4a (fun l=>l.length≤9223372036854775807) (by kernel_rfl) fun x hx=>zwm hx
 exact⟨⟨F,A⟩,rfl,hF,hA,hl⟩
theorem y3a {H:Type} {enc:TypeId × Value→H} {W:World} {v:Value} {d:DataW H} {p:List MemPlace} {r:Reach} {b0:Nat} (hsep:∀ g o v,zo6 g→W.cell? ⟨g,o,none⟩=some v→∃ z,v=.int .u8 z) (hval:Value.okWide Tryz.prog W r b0 25 v)
 (h:DataW.Trod enc Tryz.prog W 0 (fun _=>true) true 25 v d p):∃ a:Au,zei a∧DR W zo6 (auD a) v:=by
 obtain⟨ds,h1,h2,_⟩:=zs5 hsep (G:=[25,22,23,4,39,38,21,3]) (by kernel_rfl) (by kernel_rfl) (by decide) hval h
 obtain⟨fs,u25,_⟩:=z7p (show fieldTypes Tryz.prog 25=some [22,23] by kernel_rfl)
 obtain⟨a,rfl,ha⟩:=y37 (h1.inv_fields (ts:=[22,23]) (by kernel_rfl))
 exact⟨a,ha,h2 ⟨fs,u25⟩⟩
end Go.Proofs.YthdfkabdoidjfaaGreatDoor
namespace Go.Proofs.YthdfkabdoidjfaaGreatDoor
open Go.Ab Go.Ax Go.Rx
set_option maxHeartbeats 20000000
set_option maxRecDepth 100000
attribute [local irreducible] Run Ops Op1 z2b Val Tr z0v z2c NF Rel z3w z3x ze4
theorem y06 {n:Int} {a:Au} (h:¬ lgA n a=true) (hl:zei a):∀ l∈a.A,l.length≤12:=fun l hl=>by
 rw[lgA,Bool.or_eq_true,not_or,List.any_eq_true] at h
 by_cases hc:l.length≤12
 · exact hc
 · exact absurd ⟨l,hl,decide_eq_true (by omega)⟩ h.2
end Go.Proofs.YthdfkabdoidjfaaGreatDoor
namespace Go.Proofs.YthdfkabdoidjfaaGreatDoor
open Go.Ab Go.Ax Go.Rx
set_option maxHeartbeats 20000000
set_option maxRecDepth 100000
theorem y0h {a:Au} (h:vAu a=0):AuW a:=by
 have hv:=zet h
 exact⟨hv.len,hv.arc,hv.pos⟩
theorem zud {a:Au} (hv:AuW a) (hn:a.F.length≤256):zbr a.F a.A:=by
 have hl:∀ l∈a.A,l.length≤1114112:=fun l hl=>zo3 (hv.arc l hl).1 fun x hx=>by have:=(hv.arc l hl).2 x hx;omega
 have hs:=zqq hl
 have h2:=hv.len
 have h3:a.A.length*1114112≤256*1114112:=Nat.mul_le_mul_right _ (by omega)
 exact⟨hv.len,fun l h=>⟨(hv.arc l h).1,by have:=hl l h;omega,(hv.arc l h).2⟩,by omega,hv.pos,by omega⟩
theorem zzq {n:Nat} (cl:List Int) (hl:cl.length=n) (q:Nat) (hq:q<n):stQ cl (cl.getD q 0)<n∧cl.getD (stQ cl (cl.getD q 0)) 0=cl.getD q 0:=by
 obtain⟨r,hr⟩:=z86 (cl:=cl) (k:=cl.getD q 0) (j:=cl.length) (s:=q) (by omega) rfl
 have h:=z5f hr
 rw[stQ,hr]
 exact⟨by simpa[hl] using h.1,h.2⟩
theorem zno {a:Au} (h:AuW a) (hn:a.F.length≤256):∃ m,zn2 a.F a.A 256=some m∧Nrm m∧AuW m∧m.F.length≤a.F.length∧∀ w,m.acc 0 w=a.acc 0 w:=by
 obtain⟨cl,hcl,m,hm,h1⟩:=zt8 h hn (st:=stQ) fun cl hl q hq=>zzq cl hl q hq
 refine⟨m,?_,h1⟩
 rw[zn2,hcl]
 exact hm
theorem zis {a:Au} (h:AuW a):∃ b,z6z a.F a.A=some b∧AuW b∧b.F.length≤a.F.length∧∀ w,b.acc 0 w=a.acc 0 w:=by
 obtain⟨b,hb,h1⟩:=zmh h
 exact⟨b,hb,h1⟩
theorem ztm {a:Au} (h:AuW a) (hn:a.F.length≤256):Nrm (zmt a)∧AuW (zmt a)∧(zmt a).F.length≤a.F.length∧(∀ w,(zmt a).acc 0 w=a.acc 0 w)∧zbr ((z6z a.F a.A).getD ⟨[],[]⟩).F ((z6z a.F a.A).getD ⟨[],[]⟩).A:=by
 obtain⟨b,hb,b1,b2,b3⟩:=zis h
 obtain⟨m,hm,m1,m2,m3,m4⟩:=zno b1 (by omega)
 have e:zmt a=m:=by rw[zmt,hb,Option.getD_some,hm];rfl
 rw[e,hb,Option.getD_some]
 exact⟨m1,m2,by omega,fun w=>by rw[m4,b3],zud b1 (by omega)⟩
end Go.Proofs.YthdfkabdoidjfaaGreatDoor
namespace Go.Proofs.YthdfkabdoidjfaaGreatDoor
open Go.Ab Go.Ax Go.Rx
set_option maxHeartbeats 20000000
set_option maxRecDepth 100000
attribute [local irreducible] Run Ops Op1 z2b Val Tr z0v z2c NF Rel z3w z3x ze4
theorem zoh:∀ {n:Int} {l:List Arc} {p:Option Arc},okA p l→(∀ x∈l,0≤x.1∧x.1≤x.2.1∧x.2.1≤1114111∧0≤x.2.2∧x.2.2<n)→zfo n p l=0
 | n,[],p,_,_=>by cases p <;> rfl
 | n,x::l,p,h,hx=>by
  have h1:=hx x (by simp)
  have hb:¬ zqy n x=true:=by
   simp only[zqy,Bool.or_eq_true,decide_eq_true_eq,not_or];omega
  have ih:=zoh h.2.2.2 fun y hy=>hx y (by simp[hy])
  rw[z9g,if_neg hb]
  cases p with
  | none=>exact ih
  | some y =>
   have h2:=h.2.2.1 y rfl
   have hb2:¬ zpe y x=true:=by
    simp only[zpe,Bool.or_eq_true,Bool.and_eq_true,decide_eq_true_eq,not_or]
    refine⟨by omega,fun g=>h2.2 ⟨by omega,g.2.symm⟩⟩
   simp only
   rw[if_neg hb2];exact ih
theorem zla {n:Int}:∀ {A:List (List Arc)},(∀ l∈A,zfo n none l=0)→z9p n A=0
 | [],_=>rfl
 | l::A,h=>by
  rw[z9p,if_neg (by rw[h l (by simp)];simp)]
  exact zla fun m hm=>h m (by simp[hm])
theorem y0t {a:Au} (h:AuW a) (hn:a.F.length≤256):vAu a=0:=by
 have:=h.pos
 have:=h.len
 rw[vAu,if_neg (by omega),if_neg (by omega)]
 exact zla fun l hl=>zoh (h.arc l hl).1 (h.arc l hl).2
theorem y3c {x y:Operand} (r:Arc) (w:World) (own:Nat→Prop) (us vs:List Value) (hu:DR w own (.agg (z2l r)) (.agg us.toArray)) (hv:DR w own (.agg (z2l r)) (.agg vs.toArray)) :
 (do eqGuard .neq 38 x y (.agg us.toArray) (.agg vs.toArray);binOp .neq 38 (.agg us.toArray) (.agg vs.toArray):Sem Value).run Tryz.prog w=.ok (.bool false) w:=by
 have e1:=DR.lits (xs:=[.int .i32 r.1,.int .i32 r.2.1,.int .i64 r.2.2]) hu
 have e2:=DR.lits (xs:=[.int .i32 r.1,.int .i32 r.2.1,.int .i64 r.2.2]) hv
 subst e1 e2
 have hf:(Tryz.prog.fieldsOf 38).toList.map (fun f=>(f.name == "_",f.type,f.offset))=[(false,21,0),(false,21,1),(false,3,2)]:=by kernel_rfl
 have hu:Tryz.prog.underlying 38=some (.struct (Tryz.prog.fieldsOf 38)):=by kernel_rfl
 have hs:Tryz.prog.stoodInHeld 38=false:=by kernel_rfl
 have hg:Tryz.prog.eqGuardType Tryz.prog.depth 38=false:=by kernel_rfl
 have hint:Tryz.prog.underlying 21=some (.int .i32):=T21.int rfl
 have hint3:Tryz.prog.underlying 3=some (.int .i64):=T3.int rfl
 have ha3:∀ w,(isAgg 21).run Tryz.prog w=.ok false w:=fun w=>T21.isAgg w
 have ha4:∀ w,(isAgg 3).run Tryz.prog w=.ok false w:=fun w=>T3.isAgg w
 rw[Sem.run_bind,run_eqGuard_agg _ _ _ _ _ _ _ hg,Result.andThen_ok,run_neq_struct,run_equalIn_struct w 9999 38 _ _ hu hs]
 generalize (Tryz.prog.fieldsOf 38).toList=fs at hf
 obtain⟨f1,f2,f3,rfl⟩:∃ f1 f2 f3,fs=[f1,f2,f3]:=by
  have hl:=congrArg List.length hf
  simp only[List.length_map,List.length_cons,List.length_nil] at hl
  match fs,hl with
  | [a,b,c],_=>exact⟨a,b,c,rfl⟩
 simp only[List.map_cons,List.map_nil,List.cons.injEq,Prod.mk.injEq,beq_eq_false_iff_ne,ne_eq,and_true] at hf
 obtain⟨⟨n1,t1,o1⟩,⟨n2,t2,o2⟩,n3,t3,o3⟩:=hf
 simp only[Op.eqFields,n1,n2,n3,ne_eq,not_false_eq_true,if_true,t1,t2,t3,o1,o2,o3,part,Sem.run_bind,ha3,ha4,Result.andThen_ok,Bool.false_eq_true,if_false]
 simp[run_equalIn_int _ _ _ _ _ _ _ hint,run_equalIn_int _ _ _ _ _ _ _ hint3]
theorem zv9 (a:Au) (hf:zei a):z0v Tryz.prog 23 [.d (auD a),.d (auD a)] (B true):=by
 refine z1e fun H=>?_
 obtain⟨F,A⟩:=a
 obtain⟨f1,f2,f3⟩:=hf
 simp only at f1 f2 f3
 refine z0k Tryz.func23 (by kernel_rfl) rfl (by simp) ?_
 dsimp only[Tryz.f23]
 repeat' (first|(apply z05;(first|refine z0o ?_| (apply z09;(refine z02 z1d rfl rfl ?_))|(apply z0d;(refine z02 z0i rfl rfl ?_))|(apply z0t;(refine z02 (z1b rfl) rfl rfl ?_))|(apply z1q;(refine z0b z25 ?_))))|(apply z08;(first|refine z0n ?_|apply z07|refine z1r ?_| refine z8t rfl rfl (fun _=>?_) (fun _=>?_)))|(apply z06;(first|apply z0a|apply z00|refine z1h ?_| apply z04|apply z01|refine z3z rfl (fun _=>?_) (fun _=>?_))))
 all_goals try (exfalso;first|omega|(simp at *;done))
 refine z1a ?_
 refine z0e (z1y (fun q:Nat=>⟨89,[(2,.ptr (0,2) 0),(3,.ptr (0,3) 0),(4,B false),(26,I .i64 F.length),(27,I .i64 (q:Nat))],[(2,.box [.d (z7a F),.d (.slice (A.map z4a))]),(3,.box [.d (z7a F),.d (.slice (A.map z4a))])],H⟩) (fun q=>q≤F.length) (fun q=>F.length-q) ?_ 0 (Nat.zero_le _)) rfl rfl
 intro i hi ih
 by_cases hlt:i<F.length
 · obtain⟨b,hb⟩:∃ b,F[i]? =some b:=⟨_,List.getElem?_eq_getElem hlt⟩
   have ih':=ih (i+1) (by omega) (by omega)
   cases b
   all_goals repeat' (first|(apply z05;(first|refine z0o ?_| (apply z09;(refine z02 z1d rfl rfl ?_))|(apply z0d;(refine z02 z0i rfl rfl ?_))|(apply z0p;(refine z02 (z0q z1c) rfl rfl ?_))|(apply z0t;(refine z02 (z1b rfl) rfl rfl ?_))))|(apply z08;(first|refine z0n ?_|apply z07))|(apply z06;(first|apply z0a|apply z00|refine z11 ?_| apply z04|apply z01|apply z2p|apply z03|refine z0g (fun _=>?_) (fun _=>?_)| refine z0j ?_))|(apply z2r;(first|(apply z15;refine z1o mix ?_)|refine z2s ?_| (apply z0r;(first|refine z0m z1d rfl rfl ?_| refine z0m z1p rfl rfl ?_))|(apply z0s;(refine z0m z0i rfl rfl ?_))|(apply z14;(refine z0m (z1i (ys:=F.map boc) rfl (idx (g:=boc) hb)) rfl rfl ?_))|(apply z2f;(refine z0m (z8p rfl) rfl rfl ?_)))))
   all_goals try (exfalso;first|omega|(simp at *;done))
   all_goals exact z0e ih' rfl rfl
 · obtain rfl:i=F.length:=by omega
   clear ih
   repeat' (first|(apply z05;(first|refine z0o ?_| (apply z09;(refine z02 z1d rfl rfl ?_))|(apply z0d;(refine z02 z0i rfl rfl ?_))|(apply z0t;(refine z02 (z1b rfl) rfl rfl ?_))))|(apply z08;(first|refine z0n ?_|apply z07))|(apply z06;(first|apply z0a|apply z00|apply z04|apply z01|apply z2p|refine z0g (fun _=>?_) (fun _=>?_)| refine z0j ?_))|(apply z2r;(first|refine z2s ?_| (apply z0r;(refine z0m z1d rfl rfl ?_))|(apply z0s;(refine z0m z0i rfl rfl ?_)))))
   all_goals try (exfalso;omega)
   refine z1a ?_
   refine z0e (z1y (fun q:Nat=>⟨89,[(2,.ptr (0,2) 0),(3,.ptr (0,3) 0),(4,B false),(44,I .i64 A.length),(45,I .i64 (q:Nat))],[(2,.box [.d (z7a F),.d (.slice (A.map z4a))]),(3,.box [.d (z7a F),.d (.slice (A.map z4a))])],H⟩) (fun q=>q≤A.length) (fun q=>A.length-q) ?_ 0 (Nat.zero_le _)) rfl rfl
   intro j hj ih
   by_cases hjt:j<A.length
   · obtain⟨l,hl⟩:∃ l,A[j]? =some l:=⟨_,List.getElem?_eq_getElem hjt⟩
     have hll:=f3 l (List.mem_of_getElem? hl)
     have ih':=ih (j+1) (by omega) (by omega)
     repeat' (first|(apply z05;(first|refine z0o ?_| (apply z09;(first|refine z02 z1d rfl rfl ?_| refine z02 z1p rfl rfl ?_))|(apply z0d;(refine z02 z0i rfl rfl ?_))|(apply z0f;(refine z02 (z1i (ys:=A.map z4a) rfl (idx (g:=z4a) hl)) rfl rfl ?_))|(apply z0t;(refine z02 (z1b rfl) rfl rfl ?_))))|(apply z08;(first|refine z0n ?_|apply z07))|(apply z06;(first|apply z0a|apply z00|apply z04|apply z01|apply z2p|refine z0g (fun _=>?_) (fun _=>?_)| refine z3z rfl (fun _=>?_) (fun _=>?_)|refine z0j ?_))|(apply z2r;(first|(apply z15;refine z1o mix ?_)|refine z2s ?_| (apply z0r;(first|refine z0m z1d rfl rfl ?_| refine z0m z1p rfl rfl ?_))|(apply z0s;(refine z0m z0i rfl rfl ?_))|(apply z14;(refine z0m (z1i (ys:=A.map z4a) rfl (idx (g:=z4a) hl)) rfl rfl ?_))|(apply z47;(refine z0m (z1b rfl) rfl rfl ?_)))))
     all_goals try (exfalso;first|omega|(simp at *;done))
     refine z1a ?_
     refine z0e (z1y (fun q:Nat=>⟨89,[(2,.ptr (0,2) 0),(3,.ptr (0,3) 0),(4,B false),(6,I .i64 (j:Nat)),(44,I .i64 A.length),(45,I .i64 (j:Nat)),(66,I .i64 l.length),(67,I .i64 (q:Nat))],[(2,.box [.d (z7a F),.d (.slice (A.map z4a))]),(3,.box [.d (z7a F),.d (.slice (A.map z4a))])],H⟩) (fun q=>q≤l.length) (fun q=>l.length-q) ?_ 0 (Nat.zero_le _)) rfl rfl
     intro k hk ihk
     by_cases hkt:k<l.length
     · obtain⟨x,hx⟩:∃ x,l[k]? =some x:=⟨_,List.getElem?_eq_getElem hkt⟩
       have ihk':=ihk (k+1) (by omega) (by omega)
       repeat' (first|(apply z05;(first|refine z0o ?_| (apply z0p;(refine z02 (z0q z1c) rfl rfl ?_))))|(apply z08;(first|refine z0n ?_|apply z07))|(apply z06;(first|apply z0a|apply z00|refine z11 ?_| apply z04|apply z01|apply z2p|apply z03|refine z0g (fun _=>?_) (fun _=>?_)| refine z0j ?_))|(apply z2r;(first|(apply z15;refine z1o mix ?_)|refine z2s ?_| (apply z0r;(first|refine z0m z1d rfl rfl ?_| refine z0m z1p rfl rfl ?_| refine z0m z27 rfl rfl ?_))|(apply z0s;(refine z0m z0i rfl rfl ?_))|(apply z14;(first|refine z0m (z1i (ys:=A.map z4a) rfl (idx (g:=z4a) hl)) rfl rfl ?_| refine z0m (z1i (ys:=l.map z2l) rfl (idx (g:=z2l) hx)) rfl rfl ?_))|(apply z2f;(refine z0m (zxw (op:=.neq) (tx:=38) (y3c x)) rfl rfl ?_)))))
       all_goals try (exfalso;first|omega|(simp at *;done))
       all_goals exact z0e ihk' rfl rfl
     · obtain rfl:k=l.length:=by omega
       clear ihk
       repeat' (first|(apply z05;(first|refine z0o ?_| (apply z0p;(refine z02 (z0q z1c) rfl rfl ?_))))|(apply z08;(first|refine z0n ?_|apply z07))|(apply z06;(first|apply z0a|apply z00|apply z04|apply z01|apply z2p|apply z03|refine z0g (fun _=>?_) (fun _=>?_)| refine z0j ?_))|(apply z2r;(first|refine z2s ?_| (apply z0r;(refine z0m z1d rfl rfl ?_))|(apply z0s;(refine z0m z0i rfl rfl ?_)))))
       all_goals try (exfalso;omega)
       all_goals exact z0e ih' rfl rfl
   · obtain rfl:j=A.length:=by omega
     clear ih
     repeat' (first|(apply z05;(refine z0o ?_))|(apply z08;(first|refine z0n ?_|apply z07))|(apply z06;(first|apply z0a|apply z00|apply z04|apply z01|apply z2p|refine z0g (fun _=>?_) (fun _=>?_)| refine z0j ?_))|(apply z2r;(first|refine z2s ?_| (apply z0r;(refine z0m z1d rfl rfl ?_))|(apply z0s;(refine z0m z0i rfl rfl ?_)))))
     all_goals try (exfalso;omega)
     all_goals exact z0l Tryz.func23 _ z16 ⟨rfl,rfl⟩
end Go.Proofs.YthdfkabdoidjfaaGreatDoor
namespace Go.Proofs.YthdfkabdoidjfaaGreatDoor
open Go.Ab Go.Ax Go.Rx
set_option maxHeartbeats 20000000
set_option maxRecDepth 100000
attribute [local irreducible] Run Ops Op1 z2b Val Tr z0v z2c NF Rel z3w z3x ze4
theorem zwq {n:Int} {a:Au} (h:¬ lgA n a=true):a.F.length≤n∧a.A.length≤n+1:=by
 rw[lgA,Bool.or_eq_true,Bool.or_eq_true,not_or,not_or,decide_eq_true_eq,decide_eq_true_eq] at h
 omega
theorem zif (τ:Tab) (a:Au) (hf:zei a):z2c Tryz.prog 5 [.d (auD a)] (zfl τ 0) [] (B true):=by
 refine z2n fun H hH=>?_
 have hX0:=hH ((0,700),.glob 0 τ.o0) (by simp)
 have hX1:=hH ((0,701),.glob 1 τ.o1) (by simp)
 have haw:=zwz τ
 have hlg:=zy1 16 (by omega) [a] (by simp) (by simpa using hf)
 have hany:[a].any (lgA 16)=lgA 16 a:=by simp
 rw[hany] at hlg
 by_cases hb:lgA 16 a=true
 · rw[hb] at hlg
   obtain⟨F,A⟩:=a
   refine z0k Tryz.func5 (by kernel_rfl) rfl (by simp) ?_
   dsimp only[Tryz.f5]
   refine z74 700 0 700 hX0 rfl rfl ?_
   refine z74 701 0 701 (z1l hX1 (by simp)) rfl rfl ?_
   repeat' (first|(apply z05;(first|refine z0o ?_| (apply z09;(refine z02 z3t rfl rfl ?_))|(apply z0u;(refine z1j hlg ?_))|(apply z1q;(refine z0b z25 ?_))|(apply z1w;(refine z29 rfl ?_))))|(apply z08;(first|refine z0n ?_|apply z07))|(apply z06;(first|apply z0a|apply z00|refine z1h ?_)))
   all_goals try (exfalso;first|omega|(simp at *;done))
   all_goals refine z4z 700 0 700 (raw:=.glob 0 τ.o0) rfl rfl (z1l (z3q _ (0,700) _) (by simp)) rfl rfl ?_
   all_goals refine z4z 701 0 701 (raw:=.glob 1 τ.o1) rfl rfl (z1l (z3q _ (0,701) _) (by simp)) rfl rfl ?_
   all_goals exact z0l Tryz.func5 _ z16 ⟨rfl,z9k hX0 hX1⟩
 have hsm:=y06 hb hf
 have hsz:=zwq hb
 rw[Bool.not_eq_true] at hb
 rw[hb] at hlg
 by_cases hv:vAu a=0
 · have hW:=y0h hv
   have hn:=(zet hv).few
   obtain⟨g1,g2,g3,g4,g5⟩:=ztm hW hn
   have m1:=ze5 a hf hv (zud hW hn) g5
   have hfm:=zw5 (y0t g2 (by omega))
   obtain⟨m',m2,k1,k2⟩:=zj9 a hf hv hW (by omega) hsm
   have he:m'=zmt a:=y16 k1 g1 fun w=>by rw[k2,g4]
   rw[he] at m2
   have hsame:=zv9 (zmt a) hfm
   clear k1 k2 he g1 g2 g4 g5
   generalize zmt a=m at *
   obtain⟨F,A⟩:=a
   obtain⟨G,C⟩:=m
   refine z0k Tryz.func5 (by kernel_rfl) rfl (by simp) ?_
   dsimp only[Tryz.f5]
   refine z74 700 0 700 hX0 rfl rfl ?_
   refine z74 701 0 701 (z1l hX1 (by simp)) rfl rfl ?_
   repeat' (first|(apply z05;(first|refine z0o ?_| (apply z09;(first|refine z02 z3t rfl rfl ?_| refine z02 z1z rfl rfl ?_))|(apply z0u;(first|refine z3i haw rfl rfl (by decide) ?_|refine z1j m1 ?_| refine z1j m2 ?_| refine z1j hsame ?_| refine z1j hlg ?_))|(apply z0c;(refine z23 ?_))|(apply z0h;(refine z0b z2i ?_))|(apply z1q;(refine z0b z25 ?_))|(apply z1w;(refine z29 rfl ?_))))|(apply z08;(first|refine z0n ?_|apply z07))|(apply z06;(first|apply z0a|apply z00|refine z11 ?_| apply z04)))
   all_goals try (exfalso;first|omega|(simp at *;done))
   all_goals refine z4z 700 0 700 (raw:=.glob 0 τ.o0) rfl rfl (z1l (z3q _ (0,700) _) (by simp)) rfl rfl ?_
   all_goals refine z4z 701 0 701 (raw:=.glob 1 τ.o1) rfl rfl (z1l (z3q _ (0,701) _) (by simp)) rfl rfl ?_
   all_goals exact z0l Tryz.func5 _ z16 ⟨rfl,z9k hX0 hX1⟩
 · have m1:=zfz a hf hv
   have m2:=zfb a hf hv
   have hsame:=zv9 ⟨[],[]⟩ ⟨by simp,by simp,by simp⟩
   obtain⟨F,A⟩:=a
   refine z0k Tryz.func5 (by kernel_rfl) rfl (by simp) ?_
   dsimp only[Tryz.f5]
   refine z74 700 0 700 hX0 rfl rfl ?_
   refine z74 701 0 701 (z1l hX1 (by simp)) rfl rfl ?_
   repeat' (first|(apply z05;(first|refine z0o ?_| (apply z09;(first|refine z02 z3t rfl rfl ?_| refine z02 z1z rfl rfl ?_))|(apply z0u;(first|refine z3i haw rfl rfl (by decide) ?_|refine z1j m1 ?_| refine z1j m2 ?_| refine z1j hsame ?_| refine z1j hlg ?_))|(apply z0c;(refine z23 ?_))|(apply z0h;(refine z0b z2i ?_))|(apply z1q;(refine z0b z25 ?_))|(apply z1w;(refine z29 rfl ?_))))|(apply z08;(first|refine z0n ?_|apply z07))|(apply z06;(first|apply z0a|apply z00|refine z11 ?_| apply z04)))
   all_goals try (exfalso;first|omega|(simp at *;done))
   all_goals refine z4z 700 0 700 (raw:=.glob 0 τ.o0) rfl rfl (z1l (z3q _ (0,700) _) (by simp)) rfl rfl ?_
   all_goals refine z4z 701 0 701 (raw:=.glob 1 τ.o1) rfl rfl (z1l (z3q _ (0,701) _) (by simp)) rfl rfl ?_
   all_goals exact z0l Tryz.func5 _ z16 ⟨rfl,z9k hX0 hX1⟩
end Go.Proofs.YthdfkabdoidjfaaGreatDoor
