/- A part of the proof: A32 to A39. -/
import Derived.Test.YthdfkabdoidjfaaGreatDoorQ5
import Derived.Test.YthdfkabdoidjfaaGreatDoorQ1
import Derived.Test.YthdfkabdoidjfaaGreatDoorQ8
import Derived.Test.YthdfkabdoidjfaaGreatDoorQs
import Derived.Test.YthdfkabdoidjfaaGreatDoorQz
import Derived.Test.YthdfkabdoidjfaaGreatDoorQy
import Derived.Test.YthdfkabdoidjfaaGreatDoorQ9
set_option linter.all false
namespace Go.Proofs.YthdfkabdoidjfaaGreatDoor
open Go.Ab Go.Ax Go.Rx
set_option maxHeartbeats 20000000
set_option maxRecDepth 100000
def zy5 (x:Int):List Int→List Int
 | []=>[x]
 | y::l=>if x≤y then x::y::l else y::zy5 x l
def zzd:List Int→List Int
 | []=>[]
 | x::l=>zy5 x (zzd l)
theorem zdt (x:Int):∀ l:List Int,(zy5 x l).Perm (x::l)
 | []=>List.Perm.refl _
 | y::l=>by
  rw[zy5]
  split
  · exact List.Perm.refl _
  · exact((zdt x l).cons y).trans (List.Perm.swap x y l)
theorem zh4:∀ l:List Int,(zzd l).Perm l
 | []=>List.Perm.refl _
 | x::l=>(zdt x (zzd l)).trans ((zh4 l).cons x)
theorem zkz (x:Int):∀ l:List Int,l.Pairwise (· ≤·)→(zy5 x l).Pairwise (· ≤·)
 | [],_=>by simp[zy5]
 | y::l,h=>by
  rw[zy5]
  rw[List.pairwise_cons] at h
  split
  · rename_i hx
    refine List.pairwise_cons.2 ⟨fun z hz=>?_,List.pairwise_cons.2 h⟩
    rcases zAc.1 hz with rfl|hz
    · exact hx
    · have:=h.1 z hz;omega
  · rename_i hx
    refine List.pairwise_cons.2 ⟨fun z hz=>?_,zkz x l h.2⟩
    rcases zAc.1 ((zdt x l).mem_iff.1 hz) with rfl|hz
    · omega
    · exact h.1 z hz
theorem zky:∀ l:List Int,(zzd l).Pairwise (· ≤·)
 | []=>by simp[zzd]
 | x::l=>zkz x _ (zky l)
theorem zv0 (l:List Int):Go.Ax.srt l=zzd l:=zw9 (zh4 l).symm (zky l)
def zrw (L:List (List Rg)):List Int:=cpt (zzd (z55 L))
theorem zxh (L:List (List Rg)):z96 L=zrw L:=by rw[z96,zv0];rfl
theorem zy4 (N:Nat) (lv:List (List Rg)):zeb N lv=(List.range ((zrw (z9x N 0 lv)).length-1)).filterMap (cE N lv (zrw (z9x N 0 lv))):=by
 rw[zeb,zhj,zxh]
theorem zys (op:Int) (l m:List Arc):z6k op l m=(List.range ((zrw [z4e l,z4e m]).length-1)).filterMap (prE op l m (zrw [z4e l,z4e m])):=by
 rw[z6k,z4x,zxh]
abbrev eS:Rx:=.mk 4 0 (-1) [] [.mk 2 0 0 [] [.mk 1 0 0 [(97,97)] [],.mk 1 0 0 [(98,98)] []]]
abbrev cA:Au:=⟨[true,false,true],[[(97,97,1)],[(98,98,2)],[(97,97,1)]]⟩
abbrev mA:Au:=⟨[true,false],[[(97,97,1)],[(98,98,0)]]⟩
abbrev pA:Au:=⟨[false,true,true,false],[[(0,96,1),(97,97,2),(98,1114111,1)],[(0,1114111,1)],[(0,97,1),(98,98,3),(99,1114111,1)],[(0,96,1),(97,97,2),(98,1114111,1)]]⟩
abbrev nA:Au:=⟨[false,true,true],[[(0,96,1),(97,97,2),(98,1114111,1)],[(0,1114111,1)],[(0,97,1),(98,98,0),(99,1114111,1)]]⟩
theorem y0s:bd eS tb0=(⟨[[(97,97)],[(98,98)]],[2,1]⟩,⟨1,2,true⟩):=by rfl
theorem y2b:zuf eS=some cA:=by
 rw[zuf,zt7]
 simp only[zy4,y0s]
 kernel_rfl
theorem zwc:ze5 zo7.F cA.F zo7.A cA.A 3=some pA:=by
 rw[ze5]
 simp only[zys]
 kernel_rfl
theorem zql:z9t cA.F cA.A=some cA:=by kernel_rfl
theorem zs5 {F:List Bool} {A:List (List Arc)} (h:∀ q:Nat,q<F.length→z6l F A q):z6v F A=F.map fun _=>true:=by
 rw[z6v]
 refine List.ext_getElem (by simp) fun i h1 h2=>?_
 simp only[List.getElem_map,List.getElem_range]
 simp at h1
 have h2:=h i h1
 rw[← List.getElem_range (n:=F.length) (j:=i) (by simpa using h1)] at h2
 exact @decide_eq_true _ (_) h2
theorem zxv {F:List Bool} {A:List (List Arc)} (h:∀ q:Nat,q<F.length→z6l F A q):cl0 F A=F.map fun b=>if b=true then 1 else 0:=by
 rw[cl0,zs5 h]
 refine List.ext_getElem (by simp) fun i h1 h2=>?_
 simp at h1
 simp[h1]
theorem zra {F:List Bool} {A:List (List Arc)} (h:∀ q:Nat,q<F.length→z6l F A q) (lim:Nat):zod F A lim=match zj7 A lim (F.length+1) 0 (F.map fun b=>if b=true then 1 else 0) with
 | none=>none
 | some cl=>if cl.getD 0 0<0 then some ⟨[false],[[]]⟩ else y2r F A cl lim:=by
 rw[zod,zxb,zxv h]
 generalize zj7 A lim (F.length+1) 0 (F.map fun b=>if b=true then 1 else 0)=o
 cases o <;> rfl
theorem y5l:∀ q:Nat,q<cA.F.length→z6l cA.F cA.A q:=fun q hq=>by
 have:q=0∨q=1∨q=2:=by simp at hq;omega
 have l2:z6l cA.F cA.A 2:=.fin 2 rfl
 rcases this with rfl|rfl|rfl
 · exact .fin 0 rfl
 · exact .arc 1 [(98,98,2)] (98,98,2) rfl (by simp) l2
 · exact l2
theorem y42:∀ q:Nat,q<pA.F.length→z6l pA.F pA.A q:=fun q hq=>by
 have:q=0∨q=1∨q=2∨q=3:=by simp at hq;omega
 have l1:z6l pA.F pA.A 1:=.fin 1 rfl
 rcases this with rfl|rfl|rfl|rfl
 · exact .arc 0 _ (0,96,1) rfl (by simp) l1
 · exact l1
 · exact .fin 2 rfl
 · exact .arc 3 _ (0,96,1) rfl (by simp) l1
theorem y41:zod cA.F cA.A 256=some mA:=by
 rw[zra y5l]
 kernel_rfl
theorem y49:zod pA.F pA.A 256=some nA:=by
 rw[zra y42]
 kernel_rfl
theorem y5c:val eS=0:=by rfl
theorem y5i:fit eS:=by simp[fit,y0u]
theorem y4f (N:Nat):(z55 (z9x N 0 [[(97,97)],[(98,98)]])).length≤12:=by
 simp only[z9x]
 split <;> split <;> simp[z55,ends]
theorem zor:∀ {l:List Arc} {p:Option Arc},okA p l→(l.map fun x=>x.1).Pairwise (· <·)
 | [],_,_=>List.Pairwise.nil
 | x::l,p,h=>by
  rw[List.map_cons,List.pairwise_cons]
  refine⟨fun z hz=>?_,zor h.2.2.2⟩
  obtain⟨e,he,rfl⟩:=List.mem_map.1 hz
  have:=zh3 h.2.2.2 e he
  have:=h.1
  omega
theorem zsf {l:List Arc} {p:Option Arc} (h:okA p l) (hr:∀ x∈l,0≤x.1∧x.1≤1114111):l.length≤1114112:=by
 have:=zjj (B:=1114111) (zor h) fun z hz=>by
  obtain⟨e,he,rfl⟩:=List.mem_map.1 hz
  have:=hr e he
  omega
 rw[zA4] at this
 exact this
theorem zq1 {B:Nat}:∀ {A:List (List Arc)},(∀ l∈A,l.length≤B)→(A.map List.length).sum≤A.length*B
 | [],_=>by simp
 | l::A,h=>by
  rw[List.map_cons,List.sum_cons,zAk,Nat.succ_mul]
  have:=h l (by simp)
  have:=zq1 (A:=A) fun m hm=>h m (by simp[hm])
  omega
theorem zdn {a:Au} (h:vAu a=0):zcm a.F a.A∧∀ l∈a.A,l.length≤1114112:=by
 have hv:=zj2 h
 have hl:∀ l∈a.A,l.length≤1114112:=fun l hl=>zsf (hv.arc l hl).1 fun x hx=>by have:=(hv.arc l hl).2 x hx;omega
 have hs:=zq1 hl
 have h1:=hv.few
 have h2:=hv.len
 have h3:a.A.length*1114112≤256*1114112:=Nat.mul_le_mul_right _ (by omega)
 exact⟨⟨hv.len,fun l h=>⟨(hv.arc l h).1,by have:=hl l h;omega,(hv.arc l h).2⟩,by omega,hv.pos,by omega⟩,hl⟩
theorem zru {a:Au} (h:vAu a=0):z9f a:=by
 have h1:=(zdn h).1
 have h2:=h1.len
 have h3:=h1.few
 exact⟨by omega,by omega,fun l hl=>by have:=(zdn h).2 l hl;omega⟩
theorem okC:zcm cA.F cA.A:=(zdn (a:=cA) (by kernel_rfl)).1
theorem y4o:zcm pA.F pA.A:=(zdn (a:=pA) (by kernel_rfl)).1
theorem y4y:zcm zo7.F zo7.A:=(zdn (a:=zo7) (by kernel_rfl)).1
theorem y23:z9f cA:=⟨by decide,by decide,by decide⟩
theorem y1a:z9f nA:=⟨by decide,by decide,by decide⟩
theorem zz9:z9f zo7:=⟨by decide,by decide,by decide⟩
theorem zyj:z0z Tryz.prog 33 [.d (Drx eS)] (.tup [.d (auD cA),I .i64 0]):=by
 have h:=zse zmk (by decide) eS y5i y5c (by rw[y0s];exact y36) (by rw[y0s];decide) (by rw[y0s];decide) (by rw[y0s];decide) (by rw[y0s];exact y4f)
 rw[y2b] at h
 exact h
theorem y2i:z0z Tryz.prog 21 [.d (auD cA)] (.tup [.d (auD mA),I .i64 0]):=by
 have hm:y3x cA=mA:=by rw[y3x,zql,Option.getD_some,y41];rfl
 have h:=zo3 cA y23 (by kernel_rfl) okC (by rw[zql];exact okC)
 rw[hm] at h
 exact h
theorem y2l:z0z Tryz.prog 26 [.d (auD cA)] (.tup [.d (auD nA),I .i64 0]):=by
 have h:=y12 zmk (by decide) zo7 cA 3 zz9 y23 (by kernel_rfl) (by kernel_rfl) (by decide) (by decide) y4y okC (n:=1) (m:=1) (by decide) (by decide) (by decide) (fun x hx=>by rw[zwc] at hx;simp only[zAh] at hx;rw[← hx];exact y4o)
 rw[y3a,zwc,Option.bind_some,y49] at h
 exact zjb cA ⟨nA,0,rfl⟩ h
theorem y3e:y3q nA ⟨#[97]⟩=true:=by kernel_rfl
theorem y2e:y3q nA ⟨#[]⟩=false:=by kernel_rfl
attribute [local irreducible] Run Ops Op1 z2i Val Tr z0z z27 NF Rel z3r z3s zed
theorem zr1 (τ:Tab):z27 Tryz.prog 18 [] (zgb τ 0) [] (B true):=by
 refine z2f fun H hH=>?_
 have hX0:=hH ((0,700),.glob 0 τ.o0) (by simp)
 have hX1:=hH ((0,701),.glob 1 τ.o1) (by simp)
 have p1:=zvk τ
 have q1:=zyj
 have q2:=y2i
 have q3:=y2l
 have q4:=y1i nA y1a (by decide) ⟨#[97]⟩ (by decide)
 have q5:=y1i nA y1a (by decide) ⟨#[]⟩ (by decide)
 rw[y3e] at q4
 rw[y2e] at q5
 refine z0m Tryz.func18 (by kernel_rfl) rfl (by simp) ?_
 dsimp only[Tryz.f18]
 refine z50 700 0 700 hX0 rfl rfl ?_
 refine z50 701 0 701 (z1n hX1 (by simp)) rfl rfl ?_
 repeat' (first|(apply z07;(first|refine z0p ?_| (apply z0a;(first|refine z02 z1m rfl rfl ?_| refine z02 z22 rfl rfl ?_| refine z02 z2j rfl rfl ?_))|(apply z0e;(refine z02 z0s rfl rfl ?_))|(apply z0i;(refine z02 (zas rfl (by decide) rfl rfl) rfl rfl ?_))|(apply z14;(refine z02 (z1j rfl) rfl rfl ?_))|(apply z0u;(first|refine z3x p1 rfl rfl (by decide) ?_|refine z1o q1 ?_| refine z1o q2 ?_| refine z1o q3 ?_| refine z1o q4 ?_| refine z1o q5 ?_))|(apply z0d;(refine z2g ?_))|(apply z0k;(refine z0b z2q ?_))))|(apply z08;(first|refine z0o ?_|apply z09))|(apply z05;(first|apply z06|apply z00)))
 all_goals try (exfalso;first|omega|(simp at *;done))
 all_goals refine z7v (raw:=.glob 0 τ.o0) 700 0 700 (z1n (z2t _ (0,700) _) (by simp)) ?_
 all_goals refine z7v (raw:=.glob 1 τ.o1) 701 0 701 (z1n (z2t _ (0,701) _) (by simp)) ?_
 all_goals exact z0q Tryz.func18 _ z1e ⟨rfl,z8h hX0 hX1⟩
def lgA (n:Int) (a:Au):Bool:=decide (n<a.F.length)||decide (n+1<a.A.length)||a.A.any fun l=>decide (12<l.length)
theorem zrj (n:Int) (hn:0≤n∧n≤1000) (L:List Au) (hl:L.length≤10) (hf:∀ a∈L,z9f a):z0z Tryz.prog 15 [I .i64 n,.d (.slice (L.map auc))] (B (L.any (lgA n))):=by
 refine z1l fun H=>?_
 refine z0m Tryz.func15 (by kernel_rfl) rfl (by simp) ?_
 dsimp only[Tryz.f15]
 repeat' (first|(apply z07;(first|refine z0p ?_| (apply z14;(refine z02 (z1j rfl) rfl rfl ?_))))|(apply z08;(first|refine z0o ?_|apply z09))|(apply z05;(first|apply z06|apply z00|apply z01)))
 all_goals try (exfalso;omega)
 refine z16 ?_
 refine z0c (z1u (fun q:Nat=>⟨40,[(0,I .i64 n),(4,B false),(9,.d (.slice (L.map auc))),(10,I .i64 L.length),(11,I .i64 (q:Nat))],[],H⟩) (fun q=>q≤L.length∧(L.drop q).any (lgA n)=L.any (lgA n)) (fun q=>L.length-q) ?_ 0 ⟨zAf _,rfl⟩) rfl rfl
 intro i ⟨i1,i2⟩ ih
 by_cases hlt:i<L.length
 · obtain⟨a,ha⟩:∃ a,L[i]? =some a:=⟨_,zA0 hlt⟩
   have hfa:=hf a (zA2 ha)
   rw[drop_cons ha,List.any_cons,lgA] at i2
   obtain⟨f1,f2,f3⟩:=hfa
   by_cases h1:n<a.F.length
   · rw[zAi h1,Bool.true_or,Bool.true_or,Bool.true_or] at i2
     exact zD24
   by_cases h2:n+1<a.A.length
   · rw[zAi h2,Bool.or_true,Bool.true_or,Bool.true_or] at i2
     exact zD24
   rw[zAo h1,zAo h2,Bool.false_or,Bool.false_or] at i2
   repeat' (first|(apply z07;(first|refine z0p ?_| (apply z0a;(first|refine z02 z1m rfl rfl ?_| refine z02 z2o rfl rfl ?_))|(apply z0e;(refine z02 z0s rfl rfl ?_))|(apply z0i;(refine z02 (z0v (ys:=L.map auc) rfl (idx (g:=auc) ha)) rfl rfl ?_))|(apply z0n;(refine z02 (z0r z0y) rfl rfl ?_))|(apply z14;(refine z02 (z1j rfl) rfl rfl ?_))|(apply z0d;(refine z2g ?_))|(apply z0k;(refine z0b z2q ?_))))|(apply z08;(first|refine z0o ?_|apply z09|refine z1w ?_| refine z2m (fun _=>?_) (fun _=>?_)))|(apply z05;(first|apply z06|apply z00|refine z1d ?_| apply z04|apply z01|refine z0f (fun _=>?_) (fun _=>?_)| refine z0h ?_)))
   all_goals try (exfalso;omega)
   refine z16 ?_
   refine z0c (z1u (fun q:Nat=>⟨40,[(0,I .i64 n),(4,B false),(9,.d (.slice (L.map auc))),(10,I .i64 L.length),(11,I .i64 (i:Nat)),(29,.d (.slice (a.A.map z4n))),(30,I .i64 a.A.length),(31,I .i64 (q:Nat))],[],H⟩) (fun q=>q≤a.A.length∧(((a.A.drop q).any fun l=>decide (12<l.length))||(L.drop (i+1)).any (lgA n))=L.any (lgA n)) (fun q=>a.A.length-q) ?_ 0 ⟨zAf _,i2⟩) rfl rfl
   intro j ⟨j1,j2⟩ ihj
   by_cases hj:j<a.A.length
   · obtain⟨l,hl2⟩:∃ l,a.A[j]? =some l:=⟨_,zA0 hj⟩
     have hll:=f3 l (zA2 hl2)
     rw[drop_cons hl2,List.any_cons] at j2
     by_cases h3:12<l.length
     · rw[zAi h3,Bool.true_or,Bool.true_or] at j2
       rw[← j2]
       repeat' (first|(apply z07;(first|refine z0p ?_| (apply z0a;(refine z02 z22 rfl rfl ?_))|(apply z0i;(refine z02 (z0v (ys:=a.A.map z4n) rfl (idx (g:=z4n) hl2)) rfl rfl ?_))|(apply z0n;(refine z02 (z0r z0y) rfl rfl ?_))|(apply z14;(refine z02 (z1j rfl) rfl rfl ?_))))|(apply z08;(first|refine z0o ?_|apply z09))|(apply z05;(first|apply z06|apply z00|apply z04|apply z01|apply z03|refine z0f (fun _=>?_) (fun _=>?_)| refine z0h ?_)))
       all_goals try (exfalso;omega)
       all_goals exact z0q Tryz.func15 _ z1e ⟨rfl,rfl⟩
     · rw[zAo h3,Bool.false_or] at j2
       have ih':=ihj (j+1) ⟨by omega,j2⟩ (by omega)
       repeat' (first|(apply z07;(first|refine z0p ?_| (apply z0a;(refine z02 z22 rfl rfl ?_))|(apply z0i;(refine z02 (z0v (ys:=a.A.map z4n) rfl (idx (g:=z4n) hl2)) rfl rfl ?_))|(apply z0n;(refine z02 (z0r z0y) rfl rfl ?_))|(apply z14;(refine z02 (z1j rfl) rfl rfl ?_))))|(apply z08;(first|refine z0o ?_|apply z09))|(apply z05;(first|apply z06|apply z00|apply z04|apply z01|apply z03|refine z0f (fun _=>?_) (fun _=>?_)| refine z0h ?_)))
       all_goals exact zD6
   · obtain rfl:j=a.A.length:=by omega
     rw[zAs,List.any_nil,Bool.false_or] at j2
     have ih':=ih (i+1) ⟨by omega,j2⟩ (by omega)
     all_goals exact zD19
 · obtain rfl:i=L.length:=by omega
   rw[zAs,List.any_nil] at i2
   rw[← i2]
   repeat' (first|(apply z07;(refine z0p ?_))|(apply z08;(first|refine z0o ?_|apply z09))|(apply z05;(first|apply z06|apply z00|apply z04|apply z01|refine z0f (fun _=>?_) (fun _=>?_)| refine z0h ?_)))
   all_goals try (exfalso;omega)
   all_goals exact z0q Tryz.func15 _ z1e ⟨rfl,rfl⟩
open Go.Ab Go.Ax Go.Rx Go.ChangeShapes Go.WideShapes Go.ChangeAt Go.RowKit
theorem y1k {ds:List D} (h:ShL Tryz.prog [21,21,3] ds):∃ a:Arc,ds=z2x a:=by
 obtain⟨a,_,rfl,h1,b,_,rfl,h2,c,_,rfl,h3,rfl⟩:=h
 obtain⟨x,rfl,_⟩:=h1.inv_int (k:=.i32) (by kernel_rfl)
 obtain⟨y,rfl,_⟩:=h2.inv_int (k:=.i32) (by kernel_rfl)
 obtain⟨z,rfl,_⟩:=h3.inv_int (k:=.i64) (by kernel_rfl)
 exact⟨(x,y,z),rfl⟩
theorem y09 {ds:List D} (h:Sh Tryz.prog 39 ds):∃ l:List Arc,ds=z4n l∧l.length≤9223372036854775807:=by
 obtain⟨l,rfl,hl,_⟩:=h.inv_list (e:=38) z2x (fun _=>True) (by kernel_rfl) fun x hx=>by
  obtain⟨a,rfl⟩:=y1k (hx.inv_fields (ts:=[21,21,3]) (by kernel_rfl))
  exact⟨a,rfl,trivial⟩
 exact⟨l,rfl,hl⟩
theorem y1o {ds:List D} (h:Sh Tryz.prog 22 ds):∃ l:List Bool,ds=[z7s l]∧l.length≤9223372036854775807:=by
 obtain⟨l,rfl,hl,_⟩:=h.inv_list (e:=4) boc (fun _=>True) (by kernel_rfl) fun x hx=>by
  cases hx with
  | bool _ b _=>exact⟨b,rfl,trivial⟩
  | int t k z hu _ _=>exact absurd (hu.symm.trans (show Tryz.prog.underlying 4=some .bool by kernel_rfl)) (by simp)
  | str t z hu _=>exact absurd (hu.symm.trans (show Tryz.prog.underlying 4=some .bool by kernel_rfl)) (by simp)
  | slice t _ _ hu _ _=>exact absurd (hu.symm.trans (show Tryz.prog.underlying 4=some .bool by kernel_rfl)) (by simp)
  | struct t _ _ hu _ _=>exact absurd (hu.symm.trans (show Tryz.prog.underlying 4=some .bool by kernel_rfl)) (by simp)
 exact⟨l,rfl,hl⟩
theorem y4q {ds:List D} (h:ShL Tryz.prog [22,23] ds):∃ a:Au,ds=auc a∧z9f a:=by
 obtain⟨a,_,rfl,h1,b,_,rfl,h2,rfl⟩:=h
 obtain⟨F,rfl,hF⟩:=y1o h1
 obtain⟨A,rfl,hA,hl⟩:=h2.inv_list (e:=39) z4n (fun l=>l.length≤9223372036854775807) (by kernel_rfl) fun x hx=>y09 hx
 exact⟨⟨F,A⟩,rfl,hF,hA,hl⟩
theorem y0a {H:Type} {enc:TypeId × Value→H} {W:World} {v:Value} {d:DataW H} {p:List MemPlace} {r:Reach} {b0:Nat} (hsep:∀ g o v,zrz g→W.cell? ⟨g,o,none⟩=some v→∃ z,v=.int .u8 z) (hval:Value.okWide Tryz.prog W r b0 25 v)
 (h:DataW.Trod enc Tryz.prog W 0 (fun _=>true) true 25 v d p):∃ a:Au,z9f a∧DR W zrz (auD a) v:=by
 obtain⟨ds,h1,h2,_⟩:=zuj hsep (G:=[25,22,23,4,39,38,21,3]) (by kernel_rfl) (by kernel_rfl) (by decide) hval h
 obtain⟨fs,u25,_⟩:=z7y (show fieldTypes Tryz.prog 25=some [22,23] by kernel_rfl)
 obtain⟨a,rfl,ha⟩:=y4q (h1.inv_fields (ts:=[22,23]) (by kernel_rfl))
 exact⟨a,ha,h2 ⟨fs,u25⟩⟩
end Go.Proofs.YthdfkabdoidjfaaGreatDoor
namespace Go.Proofs.YthdfkabdoidjfaaGreatDoor
open Go.Ab Go.Ax Go.Rx
set_option maxHeartbeats 20000000
set_option maxRecDepth 100000
attribute [local irreducible] Run Ops Op1 z2i Val Tr z0z z27 NF Rel z3r z3s zed
theorem y2z {n:Int} {a:Au} (h:¬ lgA n a=true) (hl:z9f a):∀ l∈a.A,l.length≤12:=fun l hl=>by
 rw[lgA,zAu,not_or,List.any_eq_true] at h
 by_cases hc:l.length≤12
 · exact hc
 · exact absurd ⟨l,hl,zAi (by omega)⟩ h.2
theorem zen {a:Au} (h:vAu a=0):AuW a:=by
 have hv:=zj2 h
 exact⟨hv.len,hv.arc,hv.pos⟩
theorem zrn {a:Au} (hv:AuW a) (hn:a.F.length≤256):zcm a.F a.A:=by
 have hl:∀ l∈a.A,l.length≤1114112:=fun l hl=>zsf (hv.arc l hl).1 fun x hx=>by have:=(hv.arc l hl).2 x hx;omega
 have hs:=zq1 hl
 have h2:=hv.len
 have h3:a.A.length*1114112≤256*1114112:=Nat.mul_le_mul_right _ (by omega)
 exact⟨hv.len,fun l h=>⟨(hv.arc l h).1,by have:=hl l h;omega,(hv.arc l h).2⟩,by omega,hv.pos,by omega⟩
theorem y32 {n:Nat} (cl:List Int) (hl:cl.length=n) (q:Nat) (hq:q<n):stQ cl (cl.getD q 0)<n∧cl.getD (stQ cl (cl.getD q 0)) 0=cl.getD q 0:=by
 exact zD101
theorem zoj {a:Au} (h:AuW a) (hn:a.F.length≤256):∃ m,zod a.F a.A 256=some m∧Nrm m∧AuW m∧m.F.length≤a.F.length∧∀ w,m.acc 0 w=a.acc 0 w:=by
 obtain⟨cl,hcl,m,hm,h1⟩:=zug h hn (st:=stQ) fun cl hl q hq=>y32 cl hl q hq
 refine⟨m,?_,h1⟩
 rw[zod,hcl]
 exact hm
theorem zp0:∀ {n:Int} {l:List Arc} {p:Option Arc},okA p l→(∀ x∈l,0≤x.1∧x.1≤x.2.1∧x.2.1≤1114111∧0≤x.2.2∧x.2.2<n)→zgl n p l=0
 | n,[],p,_,_=>by cases p <;> rfl
 | n,x::l,p,h,hx=>by
  have h1:=hx x (by simp)
  have hb:¬ zsn n x=true:=by
   simp only[zsn,zAu,zA3,not_or];omega
  have ih:=zp0 h.2.2.2 fun y hy=>hx y (by simp[hy])
  rw[zag,zAy hb]
  cases p with
  | none=>exact ih
  | some y =>
   have h2:=h.2.2.1 y rfl
   have hb2:¬ zoz y x=true:=by
    simp only[zoz,zAu,zA7,zA3,not_or]
    refine⟨by omega,fun g=>h2.2 ⟨by omega,g.2.symm⟩⟩
   simp only
   rw[zAy hb2];exact ih
theorem zmo {n:Int}:∀ {A:List (List Arc)},(∀ l∈A,zgl n none l=0)→z9y n A=0
 | [],_=>rfl
 | l::A,h=>by
  rw[z9y,zAy (by rw[h l (by simp)];simp)]
  exact zmo fun m hm=>h m (by simp[hm])
theorem zxm {a:Au} (h:AuW a) (hn:a.F.length≤256):vAu a=0:=by
 have:=h.pos
 have:=h.len
 rw[vAu,zAy (by omega),zAy (by omega)]
 exact zmo fun l hl=>zp0 (h.arc l hl).1 (h.arc l hl).2
theorem y4a {x y:Operand} (r:Arc) (w:World) (own:Nat→Prop) (us vs:List Value) (hu:DR w own (.agg (z2x r)) (.agg us.toArray)) (hv:DR w own (.agg (z2x r)) (.agg vs.toArray)) :
 (do eqGuard .neq 38 x y (.agg us.toArray) (.agg vs.toArray);binOp .neq 38 (.agg us.toArray) (.agg vs.toArray):Sem Value).run Tryz.prog w=.ok (.bool false) w:=by
 have e1:=DR.lits (xs:=[.int .i32 r.1,.int .i32 r.2.1,.int .i64 r.2.2]) hu
 have e2:=DR.lits (xs:=[.int .i32 r.1,.int .i32 r.2.1,.int .i64 r.2.2]) hv
 subst e1 e2
 have hf:(Tryz.prog.fieldsOf 38).toList.map (fun f=>(f.name == "_",f.type,f.offset))=[(false,21,0),(false,21,1),(false,3,2)]:=by kernel_rfl
 have hu:Tryz.prog.underlying 38=some (.struct (Tryz.prog.fieldsOf 38)):=by kernel_rfl
 have hs:Tryz.prog.stoodInHeld 38=false:=by kernel_rfl
 have hg:Tryz.prog.eqGuardType Tryz.prog.depth 38=false:=by kernel_rfl
 have hint:Tryz.prog.underlying 21=some (.int .i32):=T21.int rfl
 have hint3:Tryz.prog.underlying 3=some (.int .i64):=T3.int rfl
 have ha3:∀ w,(isAgg 21).run Tryz.prog w=.ok false w:=fun w=>T21.isAgg w
 have ha4:∀ w,(isAgg 3).run Tryz.prog w=.ok false w:=fun w=>T3.isAgg w
 rw[Sem.run_bind,run_eqGuard_agg _ _ _ _ _ _ _ hg,Result.andThen_ok,run_neq_struct,run_equalIn_struct w 9999 38 _ _ hu hs]
 generalize (Tryz.prog.fieldsOf 38).toList=fs at hf
 obtain⟨f1,f2,f3,rfl⟩:∃ f1 f2 f3,fs=[f1,f2,f3]:=by
  have hl:=congrArg List.length hf
  simp only[zA4,zAk,List.length_nil] at hl
  match fs,hl with
  | [a,b,c],_=>exact⟨a,b,c,rfl⟩
 simp only[List.map_cons,List.map_nil,List.cons.injEq,Prod.mk.injEq,beq_eq_false_iff_ne,ne_eq,and_true] at hf
 obtain⟨⟨n1,t1,o1⟩,⟨n2,t2,o2⟩,n3,t3,o3⟩:=hf
 simp only[Op.eqFields,n1,n2,n3,ne_eq,not_false_eq_true,if_true,t1,t2,t3,o1,o2,o3,part,Sem.run_bind,ha3,ha4,Result.andThen_ok,Bool.false_eq_true,if_false]
 simp[run_equalIn_int _ _ _ _ _ _ _ hint,run_equalIn_int _ _ _ _ _ _ _ hint3]
theorem zw5 (a:Au) (hf:z9f a):z0z Tryz.prog 23 [.d (auD a),.d (auD a)] (B true):=by
 refine z1l fun H=>?_
 obtain⟨F,A⟩:=a
 obtain⟨f1,f2,f3⟩:=hf
 simp only at f1 f2 f3
 refine z0m Tryz.func23 (by kernel_rfl) rfl (by simp) ?_
 dsimp only[Tryz.f23]
 repeat' (first|(apply z07;(first|refine z0p ?_| (apply z0a;(refine z02 z1m rfl rfl ?_))|(apply z0e;(refine z02 z0s rfl rfl ?_))|(apply z14;(refine z02 (z1j rfl) rfl rfl ?_))|(apply z1y;(refine z0b z2e ?_))))|(apply z08;(first|refine z0o ?_|apply z09|refine z1w ?_| refine z61 rfl rfl (fun _=>?_) (fun _=>?_)))|(apply z05;(first|apply z06|apply z00|refine z1d ?_| apply z04|apply z01|refine z4i rfl (fun _=>?_) (fun _=>?_))))
 all_goals try (exfalso;first|omega|(simp at *;done))
 refine z16 ?_
 refine z0c (z1u (fun q:Nat=>⟨89,[(2,.ptr (0,2) 0),(3,.ptr (0,3) 0),(4,B false),(26,I .i64 F.length),(27,I .i64 (q:Nat))],[(2,.box [.d (z7s F),.d (.slice (A.map z4n))]),(3,.box [.d (z7s F),.d (.slice (A.map z4n))])],H⟩) (fun q=>q≤F.length) (fun q=>F.length-q) ?_ 0 (zAf _)) rfl rfl
 intro i hi ih
 by_cases hlt:i<F.length
 · obtain⟨b,hb⟩:∃ b,F[i]? =some b:=⟨_,zA0 hlt⟩
   have ih':=ih (i+1) (by omega) (by omega)
   cases b
   all_goals repeat' (first|(apply z07;(first|refine z0p ?_| (apply z0a;(refine z02 z1m rfl rfl ?_))|(apply z0e;(refine z02 z0s rfl rfl ?_))|(apply z0n;(refine z02 (z0r z0y) rfl rfl ?_))|(apply z14;(refine z02 (z1j rfl) rfl rfl ?_))))|(apply z08;(first|refine z0o ?_|apply z09))|(apply z05;(first|apply z06|apply z00|refine z0w ?_| apply z04|apply z01|apply z23|apply z03|refine z0f (fun _=>?_) (fun _=>?_)| refine z0h ?_))|(apply z25;(first|(apply z0t;refine z1b mix ?_)|refine z29 ?_| (apply z0j;(first|refine z0g z1m rfl rfl ?_| refine z0g z22 rfl rfl ?_))|(apply z13;(refine z0g z0s rfl rfl ?_))|(apply z0l;(refine z0g (z0v (ys:=F.map boc) rfl (idx (g:=boc) hb)) rfl rfl ?_))|(apply z1q;(refine z0g (z99 rfl) rfl rfl ?_)))))
   all_goals exact zD26
 · obtain rfl:i=F.length:=by omega
   clear ih
   repeat' (first|(apply z07;(first|refine z0p ?_| (apply z0a;(refine z02 z1m rfl rfl ?_))|(apply z0e;(refine z02 z0s rfl rfl ?_))|(apply z14;(refine z02 (z1j rfl) rfl rfl ?_))))|(apply z08;(first|refine z0o ?_|apply z09))|(apply z05;(first|apply z06|apply z00|apply z04|apply z01|apply z23|refine z0f (fun _=>?_) (fun _=>?_)| refine z0h ?_))|(apply z25;(first|refine z29 ?_| (apply z0j;(refine z0g z1m rfl rfl ?_))|(apply z13;(refine z0g z0s rfl rfl ?_)))))
   all_goals try (exfalso;omega)
   refine z16 ?_
   refine z0c (z1u (fun q:Nat=>⟨89,[(2,.ptr (0,2) 0),(3,.ptr (0,3) 0),(4,B false),(44,I .i64 A.length),(45,I .i64 (q:Nat))],[(2,.box [.d (z7s F),.d (.slice (A.map z4n))]),(3,.box [.d (z7s F),.d (.slice (A.map z4n))])],H⟩) (fun q=>q≤A.length) (fun q=>A.length-q) ?_ 0 (zAf _)) rfl rfl
   intro j hj ih
   by_cases hjt:j<A.length
   · obtain⟨l,hl⟩:∃ l,A[j]? =some l:=⟨_,zA0 hjt⟩
     have hll:=f3 l (zA2 hl)
     have ih':=ih (j+1) (by omega) (by omega)
     repeat' (first|(apply z07;(first|refine z0p ?_| (apply z0a;(first|refine z02 z1m rfl rfl ?_| refine z02 z22 rfl rfl ?_))|(apply z0e;(refine z02 z0s rfl rfl ?_))|(apply z0i;(refine z02 (z0v (ys:=A.map z4n) rfl (idx (g:=z4n) hl)) rfl rfl ?_))|(apply z14;(refine z02 (z1j rfl) rfl rfl ?_))))|(apply z08;(first|refine z0o ?_|apply z09))|(apply z05;(first|apply z06|apply z00|apply z04|apply z01|apply z23|refine z0f (fun _=>?_) (fun _=>?_)| refine z4i rfl (fun _=>?_) (fun _=>?_)|refine z0h ?_))|(apply z25;(first|(apply z0t;refine z1b mix ?_)|refine z29 ?_| (apply z0j;(first|refine z0g z1m rfl rfl ?_| refine z0g z22 rfl rfl ?_))|(apply z13;(refine z0g z0s rfl rfl ?_))|(apply z0l;(refine z0g (z0v (ys:=A.map z4n) rfl (idx (g:=z4n) hl)) rfl rfl ?_))|(apply z4l;(refine z0g (z1j rfl) rfl rfl ?_)))))
     all_goals try (exfalso;first|omega|(simp at *;done))
     refine z16 ?_
     refine z0c (z1u (fun q:Nat=>⟨89,[(2,.ptr (0,2) 0),(3,.ptr (0,3) 0),(4,B false),(6,I .i64 (j:Nat)),(44,I .i64 A.length),(45,I .i64 (j:Nat)),(66,I .i64 l.length),(67,I .i64 (q:Nat))],[(2,.box [.d (z7s F),.d (.slice (A.map z4n))]),(3,.box [.d (z7s F),.d (.slice (A.map z4n))])],H⟩) (fun q=>q≤l.length) (fun q=>l.length-q) ?_ 0 (zAf _)) rfl rfl
     intro k hk ihk
     by_cases hkt:k<l.length
     · obtain⟨x,hx⟩:∃ x,l[k]? =some x:=⟨_,zA0 hkt⟩
       have ihk':=ihk (k+1) (by omega) (by omega)
       repeat' (first|(apply z07;(first|refine z0p ?_| (apply z0n;(refine z02 (z0r z0y) rfl rfl ?_))))|(apply z08;(first|refine z0o ?_|apply z09))|(apply z05;(first|apply z06|apply z00|refine z0w ?_| apply z04|apply z01|apply z23|apply z03|refine z0f (fun _=>?_) (fun _=>?_)| refine z0h ?_))|(apply z25;(first|(apply z0t;refine z1b mix ?_)|refine z29 ?_| (apply z0j;(first|refine z0g z1m rfl rfl ?_| refine z0g z22 rfl rfl ?_| refine z0g z2o rfl rfl ?_))|(apply z13;(refine z0g z0s rfl rfl ?_))|(apply z0l;(first|refine z0g (z0v (ys:=A.map z4n) rfl (idx (g:=z4n) hl)) rfl rfl ?_| refine z0g (z0v (ys:=l.map z2x) rfl (idx (g:=z2x) hx)) rfl rfl ?_))|(apply z1q;(refine z0g (zy1 (op:=.neq) (tx:=38) (y4a x)) rfl rfl ?_)))))
       all_goals try (exfalso;first|omega|(simp at *;done))
       all_goals exact z0c ihk' rfl rfl
     · obtain rfl:k=l.length:=by omega
       clear ihk
       repeat' (first|(apply z07;(first|refine z0p ?_| (apply z0n;(refine z02 (z0r z0y) rfl rfl ?_))))|(apply z08;(first|refine z0o ?_|apply z09))|(apply z05;(first|apply z06|apply z00|apply z04|apply z01|apply z23|apply z03|refine z0f (fun _=>?_) (fun _=>?_)| refine z0h ?_))|(apply z25;(first|refine z29 ?_| (apply z0j;(refine z0g z1m rfl rfl ?_))|(apply z13;(refine z0g z0s rfl rfl ?_)))))
       all_goals exact zD6
   · obtain rfl:j=A.length:=by omega
     clear ih
     repeat' (first|(apply z07;(refine z0p ?_))|(apply z08;(first|refine z0o ?_|apply z09))|(apply z05;(first|apply z06|apply z00|apply z04|apply z01|apply z23|refine z0f (fun _=>?_) (fun _=>?_)| refine z0h ?_))|(apply z25;(first|refine z29 ?_| (apply z0j;(refine z0g z1m rfl rfl ?_))|(apply z13;(refine z0g z0s rfl rfl ?_)))))
     all_goals try (exfalso;omega)
     all_goals exact z0q Tryz.func23 _ z1e ⟨rfl,rfl⟩
theorem y0h {n:Int} {a:Au} (h:¬ lgA n a=true):a.F.length≤n∧a.A.length≤n+1:=by
 rw[lgA,zAu,zAu,not_or,not_or,zA3,zA3] at h
 omega
end Go.Proofs.YthdfkabdoidjfaaGreatDoor
