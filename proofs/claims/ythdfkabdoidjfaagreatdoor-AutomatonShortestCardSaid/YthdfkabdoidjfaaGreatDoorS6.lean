/- A part of the proof: A32 to A39. -/
import Derived.Test.YthdfkabdoidjfaaGreatDoorS5
import Derived.Test.YthdfkabdoidjfaaGreatDoorS1
import Derived.Test.YthdfkabdoidjfaaGreatDoorS8
import Derived.Test.YthdfkabdoidjfaaGreatDoorSs
import Derived.Test.YthdfkabdoidjfaaGreatDoorSz
import Derived.Test.YthdfkabdoidjfaaGreatDoorSy
import Derived.Test.YthdfkabdoidjfaaGreatDoorSb
import Derived.Test.YthdfkabdoidjfaaGreatDoorSc
import Derived.ArgAppend
import Derived.Test.YthdfkabdoidjfaaGreatDoorS4
import Derived.Test.YthdfkabdoidjfaaGreatDoorS3
import Derived.Test.YthdfkabdoidjfaaGreatDoorS2
set_option linter.all false
namespace Go.Proofs.YthdfkabdoidjfaaGreatDoor
open Go.Ab Go.Ax Go.Rx
set_option maxHeartbeats 20000000
set_option maxRecDepth 100000
def y1b (x:Int):List Int→List Int
 | []=>[x]
 | y::l=>if x≤y then x::y::l else y::y1b x l
def zz0:List Int→List Int
 | []=>[]
 | x::l=>y1b x (zz0 l)
theorem zd0 (x:Int):∀ l:List Int,(y1b x l).Perm (x::l)
 | []=>List.Perm.refl _
 | y::l=>by
  rw[y1b]
  split
  · exact List.Perm.refl _
  · exact((zd0 x l).cons y).trans (List.Perm.swap x y l)
theorem zhe:∀ l:List Int,(zz0 l).Perm l
 | []=>List.Perm.refl _
 | x::l=>(zd0 x (zz0 l)).trans ((zhe l).cons x)
theorem zmu (x:Int):∀ l:List Int,l.Pairwise (· ≤·)→(y1b x l).Pairwise (· ≤·)
 | [],_=>by simp[y1b]
 | y::l,h=>by
  rw[y1b]
  rw[List.pairwise_cons] at h
  split
  · rename_i hx
    refine List.pairwise_cons.2 ⟨fun z hz=>?_,List.pairwise_cons.2 h⟩
    rcases zAc.1 hz with rfl|hz
    · exact hx
    · have:=h.1 z hz;omega
  · rename_i hx
    refine List.pairwise_cons.2 ⟨fun z hz=>?_,zmu x l h.2⟩
    rcases zAc.1 ((zd0 x l).mem_iff.1 hz) with rfl|hz
    · omega
    · exact h.1 z hz
theorem zmk:∀ l:List Int,(zz0 l).Pairwise (· ≤·)
 | []=>by simp[zz0]
 | x::l=>zmu x _ (zmk l)
theorem zvo (l:List Int):Go.Ax.srt l=zz0 l:=zwv (zhe l).symm (zmk l)
def zq1 (L:List (List Rg)):List Int:=cpt (zz0 (z5d L))
theorem zy4 (L:List (List Rg)):z98 L=zq1 L:=by rw[z98,zvo];rfl
theorem zyr (N:Nat) (lv:List (List Rg)):zei N lv=(List.range ((zq1 (za6 N 0 lv)).length-1)).filterMap (cE N lv (zq1 (za6 N 0 lv))):=by
 rw[zei,zj3,zy4]
theorem y11 (op:Int) (l m:List Arc):z6h op l m=(List.range ((zq1 [z5j l,z5j m]).length-1)).filterMap (prE op l m (zq1 [z5j l,z5j m])):=by
 rw[z6h,z4y,zy4]
abbrev eS:Rx:=.mk 4 0 (-1) [] [.mk 2 0 0 [] [.mk 1 0 0 [(97,97)] [],.mk 1 0 0 [(98,98)] []]]
abbrev cA:Au:=⟨[true,false,true],[[(97,97,1)],[(98,98,2)],[(97,97,1)]]⟩
abbrev mA:Au:=⟨[true,false],[[(97,97,1)],[(98,98,0)]]⟩
abbrev pA:Au:=⟨[false,true,true,false],[[(0,96,1),(97,97,2),(98,1114111,1)],[(0,1114111,1)],[(0,97,1),(98,98,3),(99,1114111,1)],[(0,96,1),(97,97,2),(98,1114111,1)]]⟩
abbrev nA:Au:=⟨[false,true,true],[[(0,96,1),(97,97,2),(98,1114111,1)],[(0,1114111,1)],[(0,97,1),(98,98,0),(99,1114111,1)]]⟩
theorem y1q:bd eS tb0=(⟨[[(97,97)],[(98,98)]],[2,1]⟩,⟨1,2,true⟩):=by rfl
theorem y3l:zwi eS=some cA:=by
 rw[zwi,zv3]
 simp only[zyr,y1q]
 kernel_rfl
theorem zws:zee zor.F cA.F zor.A cA.A 3=some pA:=by
 rw[zee]
 simp only[y11]
 kernel_rfl
theorem zsd:z7n cA.F cA.A=some cA:=by kernel_rfl
theorem zpx {F:List Bool} {A:List (List Arc)} (h:∀ q:Nat,q<F.length→z6m F A q):z4q F A=F.map fun _=>true:=by
 rw[z4q]
 refine List.ext_getElem (by simp) fun i h1 h2=>?_
 simp only[List.getElem_map,List.getElem_range]
 simp at h1
 have h2:=h i h1
 rw[← List.getElem_range (n:=F.length) (j:=i) (by simpa using h1)] at h2
 exact @decide_eq_true _ (_) h2
theorem zzv {F:List Bool} {A:List (List Arc)} (h:∀ q:Nat,q<F.length→z6m F A q):cl0 F A=F.map fun b=>if b=true then 1 else 0:=by
 rw[cl0,zpx h]
 refine List.ext_getElem (by simp) fun i h1 h2=>?_
 simp at h1
 simp[h1]
theorem zpu {F:List Bool} {A:List (List Arc)} (h:∀ q:Nat,q<F.length→z6m F A q) (lim:Nat):zop F A lim=match zkw A lim (F.length+1) 0 (F.map fun b=>if b=true then 1 else 0) with
 | none=>none
 | some cl=>if cl.getD 0 0<0 then some ⟨[false],[[]]⟩ else y2s F A cl lim:=by
 rw[zop,zxn,zzv h]
 generalize zkw A lim (F.length+1) 0 (F.map fun b=>if b=true then 1 else 0)=o
 cases o <;> rfl
theorem y74:∀ q:Nat,q<cA.F.length→z6m cA.F cA.A q:=fun q hq=>by
 have:q=0∨q=1∨q=2:=by simp at hq;omega
 have l2:z6m cA.F cA.A 2:=.fin 2 rfl
 rcases this with rfl|rfl|rfl
 · exact .fin 0 rfl
 · exact .arc 1 [(98,98,2)] (98,98,2) rfl (by simp) l2
 · exact l2
theorem y73:∀ q:Nat,q<pA.F.length→z6m pA.F pA.A q:=fun q hq=>by
 have:q=0∨q=1∨q=2∨q=3:=by simp at hq;omega
 have l1:z6m pA.F pA.A 1:=.fin 1 rfl
 rcases this with rfl|rfl|rfl|rfl
 · exact .arc 0 _ (0,96,1) rfl (by simp) l1
 · exact l1
 · exact .fin 2 rfl
 · exact .arc 3 _ (0,96,1) rfl (by simp) l1
theorem y5k:zop cA.F cA.A 256=some mA:=by
 rw[zpu y74]
 kernel_rfl
theorem y78:zop pA.F pA.A 256=some nA:=by
 rw[zpu y73]
 kernel_rfl
theorem y6v:val eS=0:=by rfl
theorem y6g:fit eS:=by simp[fit,y1r]
theorem y64 (N:Nat):(z5d (za6 N 0 [[(97,97)],[(98,98)]])).length≤12:=by
 simp only[za6]
 split <;> split <;> simp[z5d,ends]
theorem zqz:∀ {l:List Arc} {p:Option Arc},okA p l→(l.map fun x=>x.1).Pairwise (· <·)
 | [],_,_=>List.Pairwise.nil
 | x::l,p,h=>by
  rw[List.map_cons,List.pairwise_cons]
  refine⟨fun z hz=>?_,zqz h.2.2.2⟩
  obtain⟨e,he,rfl⟩:=List.mem_map.1 hz
  have:=ziw h.2.2.2 e he
  have:=h.1
  omega
theorem zk8 {l:List Arc} {p:Option Arc} (h:okA p l) (hr:∀ x∈l,0≤x.1∧x.1≤1114111):l.length≤1114112:=by
 have:=zk1 (B:=1114111) (zqz h) fun z hz=>by
  obtain⟨e,he,rfl⟩:=List.mem_map.1 hz
  have:=hr e he
  omega
 rw[zA4] at this
 exact this
theorem zpr {B:Nat}:∀ {A:List (List Arc)},(∀ l∈A,l.length≤B)→(A.map List.length).sum≤A.length*B
 | [],_=>by simp
 | l::A,h=>by
  rw[List.map_cons,List.sum_cons,zAk,Nat.succ_mul]
  have:=h l (by simp)
  have:=zpr (A:=A) fun m hm=>h m (by simp[hm])
  omega
theorem zd7 {a:Au} (h:vAu a=0):zc4 a.F a.A∧∀ l∈a.A,l.length≤1114112:=by
 have hv:=z8q h
 have hl:∀ l∈a.A,l.length≤1114112:=fun l hl=>zk8 (hv.arc l hl).1 fun x hx=>by have:=(hv.arc l hl).2 x hx;omega
 have hs:=zpr hl
 have h1:=hv.few
 have h2:=hv.len
 have h3:a.A.length*1114112≤256*1114112:=Nat.mul_le_mul_right _ (by omega)
 exact⟨⟨hv.len,fun l h=>⟨(hv.arc l h).1,by have:=hl l h;omega,(hv.arc l h).2⟩,by omega,hv.pos,by omega⟩,hl⟩
theorem z71 {a:Au} (h:vAu a=0):zam a:=by
 have h1:=(zd7 h).1
 have h2:=h1.len
 have h3:=h1.few
 exact⟨by omega,by omega,fun l hl=>by have:=(zd7 h).2 l hl;omega⟩
theorem okC:zc4 cA.F cA.A:=(zd7 (a:=cA) (by kernel_rfl)).1
theorem y5n:zc4 pA.F pA.A:=(zd7 (a:=pA) (by kernel_rfl)).1
theorem y6u:zc4 zor.F zor.A:=(zd7 (a:=zor) (by kernel_rfl)).1
theorem y26:zam cA:=⟨by decide,by decide,by decide⟩
theorem y3s:zam nA:=⟨by decide,by decide,by decide⟩
theorem zzn:zam zor:=⟨by decide,by decide,by decide⟩
theorem y01:z0y Tryz.prog 33 [.d (Drx eS)] (.tup [.d (auD cA),I .i64 0]):=by
 have h:=zq8 zn8 (by decide) eS y6g y6v (by rw[y1q];exact y51) (by rw[y1q];decide) (by rw[y1q];decide) (by rw[y1q];decide) (by rw[y1q];exact y64)
 rw[y3l] at h
 exact h
theorem y3f:z0y Tryz.prog 21 [.d (auD cA)] (.tup [.d (auD mA),I .i64 0]):=by
 have hm:zo8 cA=mA:=by rw[zo8,zsd,Option.getD_some,y5k];rfl
 have h:=zen cA y26 (by kernel_rfl) okC (by rw[zsd];exact okC)
 rw[hm] at h
 exact h
theorem y4k:z0y Tryz.prog 26 [.d (auD cA)] (.tup [.d (auD nA),I .i64 0]):=by
 have h:=y4e zn8 (by decide) zor cA 3 zzn y26 (by kernel_rfl) (by kernel_rfl) (by decide) (by decide) y6u okC (n:=1) (m:=1) (by decide) (by decide) (by decide) (fun x hx=>by rw[zws] at hx;simp only[zAh] at hx;rw[← hx];exact y5n)
 rw[y53,zws,Option.bind_some,y78] at h
 exact zrn cA ⟨nA,0,rfl⟩ h
theorem y3o:zh7 nA ⟨#[97]⟩=true:=by kernel_rfl
theorem y34:zh7 nA ⟨#[]⟩=false:=by kernel_rfl
attribute [local irreducible] Run Ops Op1 z25 Val Tr z0y z1x NF Rel z3j z3l zca
theorem zkz (τ:Tab):z1x Tryz.prog 18 [] (zeo τ 0) [] (B true):=by
 refine z22 fun H hH=>?_
 have hX0:=hH ((0,700),.glob 0 τ.o0) (by simp)
 have hX1:=hH ((0,701),.glob 1 τ.o1) (by simp)
 have p1:=zun τ
 have q1:=y01
 have q2:=y3f
 have q3:=y4k
 have q4:=zap nA y3s (by decide) ⟨#[97]⟩ (by decide)
 have q5:=zap nA y3s (by decide) ⟨#[]⟩ (by decide)
 rw[y3o] at q4
 rw[y34] at q5
 refine z0k Tryz.func18 (by kernel_rfl) rfl (by simp) ?_
 dsimp only[Tryz.f18]
 refine z3x 700 0 700 hX0 ?_
 refine z3x 701 0 701 (z10 hX1 (by simp)) ?_
 repeat' (first|(apply z08;(first|refine z0o ?_| (apply z0a;(first|refine z02 z1k rfl rfl ?_| refine z02 z2l rfl rfl ?_| refine z02 z2m rfl rfl ?_))|(apply z0e;(refine z02 z0t rfl rfl ?_))|(apply z0i;(refine z02 (zaz rfl (by decide) rfl rfl) rfl rfl ?_))|(apply z13;(refine z02 (z1o rfl) rfl rfl ?_))|(apply z0q;(first|refine z39 p1 rfl rfl (by decide) ?_|refine z0z q1 ?_| refine z0z q2 ?_| refine z0z q3 ?_| refine z0z q4 ?_| refine z0z q5 ?_))|(apply z0d;(refine z29 ?_))|(apply z0g;(refine z0b z1f ?_))))|(apply z07;(first|refine z0m ?_|apply z09))|(apply z05;(first|apply z06|apply z00)))
 all_goals try (exfalso;first|omega|(simp at *;done))
 all_goals refine z3y (raw:=.glob 0 τ.o0) 700 0 700 (z10 (z1l _ (0,700) _) (by simp)) ?_
 all_goals refine z3y (raw:=.glob 1 τ.o1) 701 0 701 (z10 (z1l _ (0,701) _) (by simp)) ?_
 all_goals exact z0p Tryz.func18 _ z1c ⟨rfl,z3c hX0 hX1⟩
def lgA (n:Int) (a:Au):Bool:=decide (n<a.F.length)||decide (n+1<a.A.length)||a.A.any fun l=>decide (12<l.length)
theorem zkn (n:Int) (hn:0≤n∧n≤1000) (L:List Au) (hl:L.length≤10) (hf:∀ a∈L,zam a):z0y Tryz.prog 15 [I .i64 n,.d (.slice (L.map auc))] (B (L.any (lgA n))):=by
 refine z1p fun H=>?_
 refine z0k Tryz.func15 (by kernel_rfl) rfl (by simp) ?_
 dsimp only[Tryz.f15]
 repeat' (first|(apply z08;(first|refine z0o ?_| (apply z13;(refine z02 (z1o rfl) rfl rfl ?_))))|(apply z07;(first|refine z0m ?_|apply z09))|(apply z05;(first|apply z06|apply z00|apply z01)))
 all_goals try (exfalso;omega)
 refine z19 ?_
 refine z0c (z1v (fun q:Nat=>⟨40,[(0,I .i64 n),(4,B false),(9,.d (.slice (L.map auc))),(10,I .i64 L.length),(11,I .i64 (q:Nat))],[],H⟩) (fun q=>q≤L.length∧(L.drop q).any (lgA n)=L.any (lgA n)) (fun q=>L.length-q) ?_ 0 ⟨zAf _,rfl⟩) rfl rfl
 intro i ⟨i1,i2⟩ ih
 by_cases hlt:i<L.length
 · obtain⟨a,ha⟩:∃ a,L[i]? =some a:=⟨_,zA0 hlt⟩
   have hfa:=hf a (zA2 ha)
   rw[drop_cons ha,List.any_cons,lgA] at i2
   obtain⟨f1,f2,f3⟩:=hfa
   by_cases h1:n<a.F.length
   · rw[zAi h1,Bool.true_or,Bool.true_or,Bool.true_or] at i2
     exact zD28
   by_cases h2:n+1<a.A.length
   · rw[zAi h2,Bool.or_true,Bool.true_or,Bool.true_or] at i2
     exact zD28
   rw[zAo h1,zAo h2,Bool.false_or,Bool.false_or] at i2
   repeat' (first|(apply z08;(first|refine z0o ?_| (apply z0a;(first|refine z02 z1k rfl rfl ?_| refine z02 z2a rfl rfl ?_))|(apply z0e;(refine z02 z0t rfl rfl ?_))|(apply z0i;(refine z02 (z23 (ys:=L.map auc) rfl (idx (g:=auc) ha)) rfl rfl ?_))|(apply z0r;(refine z02 (z0s z0w) rfl rfl ?_))|(apply z13;(refine z02 (z1o rfl) rfl rfl ?_))|(apply z0d;(refine z29 ?_))|(apply z0g;(refine z0b z1f ?_))))|(apply z07;(first|refine z0m ?_|apply z09|refine z1u ?_| refine z2p (fun _=>?_) (fun _=>?_)))|(apply z05;(first|apply z06|apply z00|refine z1a ?_| apply z04|apply z01|refine z0f (fun _=>?_) (fun _=>?_)| refine z0j ?_)))
   all_goals try (exfalso;omega)
   refine z19 ?_
   refine z0c (z1v (fun q:Nat=>⟨40,[(0,I .i64 n),(4,B false),(9,.d (.slice (L.map auc))),(10,I .i64 L.length),(11,I .i64 (i:Nat)),(29,.d (.slice (a.A.map z4u))),(30,I .i64 a.A.length),(31,I .i64 (q:Nat))],[],H⟩) (fun q=>q≤a.A.length∧(((a.A.drop q).any fun l=>decide (12<l.length))||(L.drop (i+1)).any (lgA n))=L.any (lgA n)) (fun q=>a.A.length-q) ?_ 0 ⟨zAf _,i2⟩) rfl rfl
   intro j ⟨j1,j2⟩ ihj
   by_cases hj:j<a.A.length
   · obtain⟨l,hl2⟩:∃ l,a.A[j]? =some l:=⟨_,zA0 hj⟩
     have hll:=f3 l (zA2 hl2)
     rw[drop_cons hl2,List.any_cons] at j2
     by_cases h3:12<l.length
     · rw[zAi h3,Bool.true_or,Bool.true_or] at j2
       rw[← j2]
       repeat' (first|(apply z08;(first|refine z0o ?_| (apply z0a;(refine z02 z2l rfl rfl ?_))|(apply z0i;(refine z02 (z23 (ys:=a.A.map z4u) rfl (idx (g:=z4u) hl2)) rfl rfl ?_))|(apply z0r;(refine z02 (z0s z0w) rfl rfl ?_))|(apply z13;(refine z02 (z1o rfl) rfl rfl ?_))))|(apply z07;(first|refine z0m ?_|apply z09))|(apply z05;(first|apply z06|apply z00|apply z04|apply z01|apply z03|refine z0f (fun _=>?_) (fun _=>?_)| refine z0j ?_)))
       all_goals try (exfalso;omega)
       all_goals exact z0p Tryz.func15 _ z1c ⟨rfl,rfl⟩
     · rw[zAo h3,Bool.false_or] at j2
       have ih':=ihj (j+1) ⟨by omega,j2⟩ (by omega)
       repeat' (first|(apply z08;(first|refine z0o ?_| (apply z0a;(refine z02 z2l rfl rfl ?_))|(apply z0i;(refine z02 (z23 (ys:=a.A.map z4u) rfl (idx (g:=z4u) hl2)) rfl rfl ?_))|(apply z0r;(refine z02 (z0s z0w) rfl rfl ?_))|(apply z13;(refine z02 (z1o rfl) rfl rfl ?_))))|(apply z07;(first|refine z0m ?_|apply z09))|(apply z05;(first|apply z06|apply z00|apply z04|apply z01|apply z03|refine z0f (fun _=>?_) (fun _=>?_)| refine z0j ?_)))
       all_goals exact zD14
   · obtain rfl:j=a.A.length:=by omega
     rw[zAs,List.any_nil,Bool.false_or] at j2
     have ih':=ih (i+1) ⟨by omega,j2⟩ (by omega)
     all_goals exact zD75
 · obtain rfl:i=L.length:=by omega
   rw[zAs,List.any_nil] at i2
   rw[← i2]
   repeat' (first|(apply z08;(refine z0o ?_))|(apply z07;(first|refine z0m ?_|apply z09))|(apply z05;(first|apply z06|apply z00|apply z04|apply z01|refine z0f (fun _=>?_) (fun _=>?_)| refine z0j ?_)))
   all_goals try (exfalso;omega)
   all_goals exact z0p Tryz.func15 _ z1c ⟨rfl,rfl⟩
open Go.Ab Go.Ax Go.Rx Go.ChangeShapes Go.WideShapes Go.ChangeAt Go.RowKit
theorem y3x {ds:List D} (h:ShL Tryz.prog [21,21,3] ds):∃ a:Arc,ds=z2x a:=by
 obtain⟨a,_,rfl,h1,b,_,rfl,h2,c,_,rfl,h3,rfl⟩:=h
 obtain⟨x,rfl,_⟩:=h1.inv_int (k:=.i32) (by kernel_rfl)
 obtain⟨y,rfl,_⟩:=h2.inv_int (k:=.i32) (by kernel_rfl)
 obtain⟨z,rfl,_⟩:=h3.inv_int (k:=.i64) (by kernel_rfl)
 exact⟨(x,y,z),rfl⟩
theorem y1c {ds:List D} (h:Sh Tryz.prog 39 ds):∃ l:List Arc,ds=z4u l∧l.length≤9223372036854775807:=by
 obtain⟨l,rfl,hl,_⟩:=h.inv_list (e:=38) z2x (fun _=>True) (by kernel_rfl) fun x hx=>by
  obtain⟨a,rfl⟩:=y3x (hx.inv_fields (ts:=[21,21,3]) (by kernel_rfl))
  exact⟨a,rfl,trivial⟩
 exact⟨l,rfl,hl⟩
theorem y22 {ds:List D} (h:Sh Tryz.prog 22 ds):∃ l:List Bool,ds=[zea l]∧l.length≤9223372036854775807:=by
 obtain⟨l,rfl,hl,_⟩:=h.inv_list (e:=4) boc (fun _=>True) (by kernel_rfl) fun x hx=>by
  cases hx with
  | bool _ b _=>exact⟨b,rfl,trivial⟩
  | int t k z hu _ _=>exact absurd (hu.symm.trans (show Tryz.prog.underlying 4=some .bool by kernel_rfl)) (by simp)
  | str t z hu _=>exact absurd (hu.symm.trans (show Tryz.prog.underlying 4=some .bool by kernel_rfl)) (by simp)
  | slice t _ _ hu _ _=>exact absurd (hu.symm.trans (show Tryz.prog.underlying 4=some .bool by kernel_rfl)) (by simp)
  | struct t _ _ hu _ _=>exact absurd (hu.symm.trans (show Tryz.prog.underlying 4=some .bool by kernel_rfl)) (by simp)
 exact⟨l,rfl,hl⟩
theorem y6i {ds:List D} (h:ShL Tryz.prog [22,23] ds):∃ a:Au,ds=auc a∧zam a:=by
 obtain⟨a,_,rfl,h1,b,_,rfl,h2,rfl⟩:=h
 obtain⟨F,rfl,hF⟩:=y22 h1
 obtain⟨A,rfl,hA,hl⟩:=h2.inv_list (e:=39) z4u (fun l=>l.length≤9223372036854775807) (by kernel_rfl) fun x hx=>y1c hx
 exact⟨⟨F,A⟩,rfl,hF,hA,hl⟩
theorem zr1 {H:Type} {enc:TypeId × Value→H} {W:World} {v:Value} {d:DataW H} {p:List MemPlace} {r:Reach} {b0:Nat} (hsep:∀ g o v,zpb g→W.cell? ⟨g,o,none⟩=some v→∃ z,v=.int .u8 z) (hval:Value.okWide Tryz.prog W r b0 25 v)
 (h:DataW.Trod enc Tryz.prog W 0 (fun _=>true) true 25 v d p):∃ a:Au,zam a∧DR W zpb (auD a) v:=by
 obtain⟨ds,h1,h2,_⟩:=zu6 hsep (G:=[25,22,23,4,39,38,21,3]) (by kernel_rfl) (by kernel_rfl) (by decide) hval h
 obtain⟨fs,u25,_⟩:=z8i (show fieldTypes Tryz.prog 25=some [22,23] by kernel_rfl)
 obtain⟨a,rfl,ha⟩:=y6i (h1.inv_fields (ts:=[22,23]) (by kernel_rfl))
 exact⟨a,ha,h2 ⟨fs,u25⟩⟩
end Go.Proofs.YthdfkabdoidjfaaGreatDoor
namespace Go.Proofs.YthdfkabdoidjfaaGreatDoor
open Go.Ab Go.Ax Go.Rx
set_option maxHeartbeats 20000000
set_option maxRecDepth 100000
attribute [local irreducible] Run Ops Op1 z25 Val Tr z0y z1x NF Rel z3j z3l zca
theorem zj0 {n:Int} {a:Au} (h:¬ lgA n a=true) (hl:zam a):∀ l∈a.A,l.length≤12:=fun l hl=>by
 rw[lgA,zAu,not_or,List.any_eq_true] at h
 by_cases hc:l.length≤12
 · exact hc
 · exact absurd ⟨l,hl,zAi (by omega)⟩ h.2
theorem z6a {a:Au} (h:vAu a=0):AuW a:=by
 have hv:=z8q h
 exact⟨hv.len,hv.arc,hv.pos⟩
theorem zbp {a:Au} (hv:AuW a) (hn:a.F.length≤256):zc4 a.F a.A:=by
 have hl:∀ l∈a.A,l.length≤1114112:=fun l hl=>zk8 (hv.arc l hl).1 fun x hx=>by have:=(hv.arc l hl).2 x hx;omega
 have hs:=zpr hl
 have h2:=hv.len
 have h3:a.A.length*1114112≤256*1114112:=Nat.mul_le_mul_right _ (by omega)
 exact⟨hv.len,fun l h=>⟨(hv.arc l h).1,by have:=hl l h;omega,(hv.arc l h).2⟩,by omega,hv.pos,by omega⟩
theorem y21 {n:Nat} (cl:List Int) (hl:cl.length=n) (q:Nat) (hq:q<n):stQ cl (cl.getD q 0)<n∧cl.getD (stQ cl (cl.getD q 0)) 0=cl.getD q 0:=by
 obtain⟨r,hr⟩:=z9v (cl:=cl) (k:=cl.getD q 0) (j:=cl.length) (s:=q) (by omega) rfl
 have h:=z6t hr
 rw[stQ,hr]
 exact⟨by simpa[hl] using h.1,h.2⟩
theorem zhr {a:Au} (h:AuW a) (hn:a.F.length≤256):∃ m,zop a.F a.A 256=some m∧Nrm m∧AuW m∧m.F.length≤a.F.length∧∀ w,m.acc 0 w=a.acc 0 w:=by
 obtain⟨cl,hcl,m,hm,h1⟩:=zv1 h hn (st:=stQ) fun cl hl q hq=>y21 cl hl q hq
 refine⟨m,?_,h1⟩
 rw[zop,hcl]
 exact hm
theorem zji {a:Au} (h:AuW a):∃ b,z7n a.F a.A=some b∧AuW b∧b.F.length≤a.F.length∧∀ w,b.acc 0 w=a.acc 0 w:=by
 obtain⟨b,hb,h1⟩:=zof h
 exact⟨b,hb,h1⟩
theorem zw6 {a:Au} (h:AuW a) (hn:a.F.length≤256):Nrm (zo8 a)∧AuW (zo8 a)∧(zo8 a).F.length≤a.F.length∧(∀ w,(zo8 a).acc 0 w=a.acc 0 w)∧zc4 ((z7n a.F a.A).getD ⟨[],[]⟩).F ((z7n a.F a.A).getD ⟨[],[]⟩).A:=by
 obtain⟨b,hb,b1,b2,b3⟩:=zji h
 obtain⟨m,hm,m1,m2,m3,m4⟩:=zhr b1 (by omega)
 have e:zo8 a=m:=by rw[zo8,hb,Option.getD_some,hm];rfl
 rw[e,hb,Option.getD_some]
 exact⟨m1,m2,by omega,fun w=>by rw[m4,b3],zbp b1 (by omega)⟩
theorem zt8:∀ {n:Int} {l:List Arc} {p:Option Arc},okA p l→(∀ x∈l,0≤x.1∧x.1≤x.2.1∧x.2.1≤1114111∧0≤x.2.2∧x.2.2<n)→zh9 n p l=0
 | n,[],p,_,_=>by cases p <;> rfl
 | n,x::l,p,h,hx=>by
  have h1:=hx x (by simp)
  have hb:¬ zra n x=true:=by
   simp only[zra,zAu,zA3,not_or];omega
  have ih:=zt8 h.2.2.2 fun y hy=>hx y (by simp[hy])
  rw[z9s,zAy hb]
  cases p with
  | none=>exact ih
  | some y =>
   have h2:=h.2.2.1 y rfl
   have hb2:¬ zrk y x=true:=by
    simp only[zrk,zAu,zA7,zA3,not_or]
    refine⟨by omega,fun g=>h2.2 ⟨by omega,g.2.symm⟩⟩
   simp only
   rw[zAy hb2];exact ih
theorem zmh {n:Int}:∀ {A:List (List Arc)},(∀ l∈A,zh9 n none l=0)→z9w n A=0
 | [],_=>rfl
 | l::A,h=>by
  rw[z9w,zAy (by rw[h l (by simp)];simp)]
  exact zmh fun m hm=>h m (by simp[hm])
theorem z9b {a:Au} (h:AuW a) (hn:a.F.length≤256):vAu a=0:=by
 have:=h.pos
 have:=h.len
 rw[vAu,zAy (by omega),zAy (by omega)]
 exact zmh fun l hl=>zt8 (h.arc l hl).1 (h.arc l hl).2
theorem y67 {x y:Operand} (r:Arc) (w:World) (own:Nat→Prop) (us vs:List Value) (hu:DR w own (.agg (z2x r)) (.agg us.toArray)) (hv:DR w own (.agg (z2x r)) (.agg vs.toArray)) :
 (do eqGuard .neq 38 x y (.agg us.toArray) (.agg vs.toArray);binOp .neq 38 (.agg us.toArray) (.agg vs.toArray):Sem Value).run Tryz.prog w=.ok (.bool false) w:=by
 have e1:=DR.lits (xs:=[.int .i32 r.1,.int .i32 r.2.1,.int .i64 r.2.2]) hu
 have e2:=DR.lits (xs:=[.int .i32 r.1,.int .i32 r.2.1,.int .i64 r.2.2]) hv
 subst e1 e2
 have hf:(Tryz.prog.fieldsOf 38).toList.map (fun f=>(f.name == "_",f.type,f.offset))=[(false,21,0),(false,21,1),(false,3,2)]:=by kernel_rfl
 have hu:Tryz.prog.underlying 38=some (.struct (Tryz.prog.fieldsOf 38)):=by kernel_rfl
 have hs:Tryz.prog.stoodInHeld 38=false:=by kernel_rfl
 have hg:Tryz.prog.eqGuardType Tryz.prog.depth 38=false:=by kernel_rfl
 have hint:Tryz.prog.underlying 21=some (.int .i32):=T21.int rfl
 have hint3:Tryz.prog.underlying 3=some (.int .i64):=T3.int rfl
 have ha3:∀ w,(isAgg 21).run Tryz.prog w=.ok false w:=fun w=>T21.isAgg w
 have ha4:∀ w,(isAgg 3).run Tryz.prog w=.ok false w:=fun w=>T3.isAgg w
 rw[Sem.run_bind,run_eqGuard_agg _ _ _ _ _ _ _ hg,Result.andThen_ok,run_neq_struct,run_equalIn_struct w 9999 38 _ _ hu hs]
 generalize (Tryz.prog.fieldsOf 38).toList=fs at hf
 obtain⟨f1,f2,f3,rfl⟩:∃ f1 f2 f3,fs=[f1,f2,f3]:=by
  have hl:=congrArg List.length hf
  simp only[zA4,zAk,List.length_nil] at hl
  match fs,hl with
  | [a,b,c],_=>exact⟨a,b,c,rfl⟩
 simp only[List.map_cons,List.map_nil,List.cons.injEq,Prod.mk.injEq,beq_eq_false_iff_ne,ne_eq,and_true] at hf
 obtain⟨⟨n1,t1,o1⟩,⟨n2,t2,o2⟩,n3,t3,o3⟩:=hf
 simp only[Op.eqFields,n1,n2,n3,ne_eq,not_false_eq_true,if_true,t1,t2,t3,o1,o2,o3,part,Sem.run_bind,ha3,ha4,Result.andThen_ok,Bool.false_eq_true,if_false]
 simp[run_equalIn_int _ _ _ _ _ _ _ hint,run_equalIn_int _ _ _ _ _ _ _ hint3]
theorem zxw (a:Au) (hf:zam a):z0y Tryz.prog 23 [.d (auD a),.d (auD a)] (B true):=by
 refine z1p fun H=>?_
 obtain⟨F,A⟩:=a
 obtain⟨f1,f2,f3⟩:=hf
 simp only at f1 f2 f3
 refine z0k Tryz.func23 (by kernel_rfl) rfl (by simp) ?_
 dsimp only[Tryz.f23]
 repeat' (first|(apply z08;(first|refine z0o ?_| (apply z0a;(refine z02 z1k rfl rfl ?_))|(apply z0e;(refine z02 z0t rfl rfl ?_))|(apply z13;(refine z02 (z1o rfl) rfl rfl ?_))|(apply z1s;(refine z0b z3k ?_))))|(apply z07;(first|refine z0m ?_|apply z09|refine z1u ?_| refine z4r rfl rfl (fun _=>?_) (fun _=>?_)))|(apply z05;(first|apply z06|apply z00|refine z1a ?_| apply z04|apply z01|refine z5c rfl (fun _=>?_) (fun _=>?_))))
 all_goals try (exfalso;first|omega|(simp at *;done))
 refine z19 ?_
 refine z0c (z1v (fun q:Nat=>⟨89,[(2,.ptr (0,2) 0),(3,.ptr (0,3) 0),(4,B false),(26,I .i64 F.length),(27,I .i64 (q:Nat))],[(2,.box [.d (zea F),.d (.slice (A.map z4u))]),(3,.box [.d (zea F),.d (.slice (A.map z4u))])],H⟩) (fun q=>q≤F.length) (fun q=>F.length-q) ?_ 0 (zAf _)) rfl rfl
 intro i hi ih
 by_cases hlt:i<F.length
 · obtain⟨b,hb⟩:∃ b,F[i]? =some b:=⟨_,zA0 hlt⟩
   have ih':=ih (i+1) (by omega) (by omega)
   cases b
   all_goals repeat' (first|(apply z08;(first|refine z0o ?_| (apply z0a;(refine z02 z1k rfl rfl ?_))|(apply z0e;(refine z02 z0t rfl rfl ?_))|(apply z0r;(refine z02 (z0s z0w) rfl rfl ?_))|(apply z13;(refine z02 (z1o rfl) rfl rfl ?_))))|(apply z07;(first|refine z0m ?_|apply z09))|(apply z05;(first|apply z06|apply z00|refine z0v ?_| apply z04|apply z01|apply z2c|apply z03|refine z0f (fun _=>?_) (fun _=>?_)| refine z0j ?_))|(apply z2d;(first|(apply z0u;refine z1h mix ?_)|refine z2e ?_| (apply z0l;(first|refine z0h z1k rfl rfl ?_| refine z0h z2l rfl rfl ?_))|(apply z11;(refine z0h z0t rfl rfl ?_))|(apply z0n;(refine z0h (z23 (ys:=F.map boc) rfl (idx (g:=boc) hb)) rfl rfl ?_))|(apply z1m;(refine z0h (za4 rfl) rfl rfl ?_)))))
   all_goals exact zD27
 · obtain rfl:i=F.length:=by omega
   clear ih
   repeat' (first|(apply z08;(first|refine z0o ?_| (apply z0a;(refine z02 z1k rfl rfl ?_))|(apply z0e;(refine z02 z0t rfl rfl ?_))|(apply z13;(refine z02 (z1o rfl) rfl rfl ?_))))|(apply z07;(first|refine z0m ?_|apply z09))|(apply z05;(first|apply z06|apply z00|apply z04|apply z01|apply z2c|refine z0f (fun _=>?_) (fun _=>?_)| refine z0j ?_))|(apply z2d;(first|refine z2e ?_| (apply z0l;(refine z0h z1k rfl rfl ?_))|(apply z11;(refine z0h z0t rfl rfl ?_)))))
   all_goals try (exfalso;omega)
   refine z19 ?_
   refine z0c (z1v (fun q:Nat=>⟨89,[(2,.ptr (0,2) 0),(3,.ptr (0,3) 0),(4,B false),(44,I .i64 A.length),(45,I .i64 (q:Nat))],[(2,.box [.d (zea F),.d (.slice (A.map z4u))]),(3,.box [.d (zea F),.d (.slice (A.map z4u))])],H⟩) (fun q=>q≤A.length) (fun q=>A.length-q) ?_ 0 (zAf _)) rfl rfl
   intro j hj ih
   by_cases hjt:j<A.length
   · obtain⟨l,hl⟩:∃ l,A[j]? =some l:=⟨_,zA0 hjt⟩
     have hll:=f3 l (zA2 hl)
     have ih':=ih (j+1) (by omega) (by omega)
     repeat' (first|(apply z08;(first|refine z0o ?_| (apply z0a;(first|refine z02 z1k rfl rfl ?_| refine z02 z2l rfl rfl ?_))|(apply z0e;(refine z02 z0t rfl rfl ?_))|(apply z0i;(refine z02 (z23 (ys:=A.map z4u) rfl (idx (g:=z4u) hl)) rfl rfl ?_))|(apply z13;(refine z02 (z1o rfl) rfl rfl ?_))))|(apply z07;(first|refine z0m ?_|apply z09))|(apply z05;(first|apply z06|apply z00|apply z04|apply z01|apply z2c|refine z0f (fun _=>?_) (fun _=>?_)| refine z5c rfl (fun _=>?_) (fun _=>?_)|refine z0j ?_))|(apply z2d;(first|(apply z0u;refine z1h mix ?_)|refine z2e ?_| (apply z0l;(first|refine z0h z1k rfl rfl ?_| refine z0h z2l rfl rfl ?_))|(apply z11;(refine z0h z0t rfl rfl ?_))|(apply z0n;(refine z0h (z23 (ys:=A.map z4u) rfl (idx (g:=z4u) hl)) rfl rfl ?_))|(apply z6u;(refine z0h (z1o rfl) rfl rfl ?_)))))
     all_goals try (exfalso;first|omega|(simp at *;done))
     refine z19 ?_
     refine z0c (z1v (fun q:Nat=>⟨89,[(2,.ptr (0,2) 0),(3,.ptr (0,3) 0),(4,B false),(6,I .i64 (j:Nat)),(44,I .i64 A.length),(45,I .i64 (j:Nat)),(66,I .i64 l.length),(67,I .i64 (q:Nat))],[(2,.box [.d (zea F),.d (.slice (A.map z4u))]),(3,.box [.d (zea F),.d (.slice (A.map z4u))])],H⟩) (fun q=>q≤l.length) (fun q=>l.length-q) ?_ 0 (zAf _)) rfl rfl
     intro k hk ihk
     by_cases hkt:k<l.length
     · obtain⟨x,hx⟩:∃ x,l[k]? =some x:=⟨_,zA0 hkt⟩
       have ihk':=ihk (k+1) (by omega) (by omega)
       repeat' (first|(apply z08;(first|refine z0o ?_| (apply z0r;(refine z02 (z0s z0w) rfl rfl ?_))))|(apply z07;(first|refine z0m ?_|apply z09))|(apply z05;(first|apply z06|apply z00|refine z0v ?_| apply z04|apply z01|apply z2c|apply z03|refine z0f (fun _=>?_) (fun _=>?_)| refine z0j ?_))|(apply z2d;(first|(apply z0u;refine z1h mix ?_)|refine z2e ?_| (apply z0l;(first|refine z0h z1k rfl rfl ?_| refine z0h z2l rfl rfl ?_| refine z0h z2a rfl rfl ?_))|(apply z11;(refine z0h z0t rfl rfl ?_))|(apply z0n;(first|refine z0h (z23 (ys:=A.map z4u) rfl (idx (g:=z4u) hl)) rfl rfl ?_| refine z0h (z23 (ys:=l.map z2x) rfl (idx (g:=z2x) hx)) rfl rfl ?_))|(apply z1m;(refine z0h (y6p (op:=.neq) (tx:=38) (y67 x)) rfl rfl ?_)))))
       all_goals try (exfalso;first|omega|(simp at *;done))
       all_goals exact z0c ihk' rfl rfl
     · obtain rfl:k=l.length:=by omega
       clear ihk
       repeat' (first|(apply z08;(first|refine z0o ?_| (apply z0r;(refine z02 (z0s z0w) rfl rfl ?_))))|(apply z07;(first|refine z0m ?_|apply z09))|(apply z05;(first|apply z06|apply z00|apply z04|apply z01|apply z2c|apply z03|refine z0f (fun _=>?_) (fun _=>?_)| refine z0j ?_))|(apply z2d;(first|refine z2e ?_| (apply z0l;(refine z0h z1k rfl rfl ?_))|(apply z11;(refine z0h z0t rfl rfl ?_)))))
       all_goals exact zD14
   · obtain rfl:j=A.length:=by omega
     clear ih
     repeat' (first|(apply z08;(refine z0o ?_))|(apply z07;(first|refine z0m ?_|apply z09))|(apply z05;(first|apply z06|apply z00|apply z04|apply z01|apply z2c|refine z0f (fun _=>?_) (fun _=>?_)| refine z0j ?_))|(apply z2d;(first|refine z2e ?_| (apply z0l;(refine z0h z1k rfl rfl ?_))|(apply z11;(refine z0h z0t rfl rfl ?_)))))
     all_goals try (exfalso;omega)
     all_goals exact z0p Tryz.func23 _ z1c ⟨rfl,rfl⟩
theorem zyz {n:Int} {a:Au} (h:¬ lgA n a=true):a.F.length≤n∧a.A.length≤n+1:=by
 rw[lgA,zAu,zAu,not_or,not_or,zA3,zA3] at h
 omega
end Go.Proofs.YthdfkabdoidjfaaGreatDoor
