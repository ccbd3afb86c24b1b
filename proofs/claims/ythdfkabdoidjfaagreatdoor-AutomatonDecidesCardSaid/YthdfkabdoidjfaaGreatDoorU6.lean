/- A part of the proof: A32 to A39. -/
import Derived.Test.YthdfkabdoidjfaaGreatDoorUc
import Derived.Test.YthdfkabdoidjfaaGreatDoorU5
import Derived.Test.YthdfkabdoidjfaaGreatDoorU1
import Derived.Test.YthdfkabdoidjfaaGreatDoorU8
import Derived.Test.YthdfkabdoidjfaaGreatDoorUs
import Derived.Test.YthdfkabdoidjfaaGreatDoorUz
import Derived.Test.YthdfkabdoidjfaaGreatDoorUy
import Derived.Test.YthdfkabdoidjfaaGreatDoorU9
set_option linter.all false
namespace Go.Proofs.YthdfkabdoidjfaaGreatDoor
open Go.Ab Go.Ax Go.Rx
set_option maxHeartbeats 20000000
set_option maxRecDepth 100000
def zzk (x:Int):List Int→List Int
 | []=>[x]
 | y::l=>if x≤y then x::y::l else y::zzk x l
def y0e:List Int→List Int
 | []=>[]
 | x::l=>zzk x (y0e l)
theorem zcb (x:Int):∀ l:List Int,(zzk x l).Perm (x::l)
 | []=>List.Perm.refl _
 | y::l=>by
  rw[zzk]
  split
  · exact List.Perm.refl _
  · exact((zcb x l).cons y).trans (List.Perm.swap x y l)
theorem zh5:∀ l:List Int,(y0e l).Perm l
 | []=>List.Perm.refl _
 | x::l=>(zcb x (y0e l)).trans ((zh5 l).cons x)
theorem zm9 (x:Int):∀ l:List Int,l.Pairwise (· ≤·)→(zzk x l).Pairwise (· ≤·)
 | [],_=>by simp[zzk]
 | y::l,h=>by
  rw[zzk]
  rw[List.pairwise_cons] at h
  split
  · rename_i hx
    refine List.pairwise_cons.2 ⟨fun z hz=>?_,List.pairwise_cons.2 h⟩
    rcases zAc.1 hz with rfl|hz
    · exact hx
    · have:=h.1 z hz;omega
  · rename_i hx
    refine List.pairwise_cons.2 ⟨fun z hz=>?_,zm9 x l h.2⟩
    rcases zAc.1 ((zcb x l).mem_iff.1 hz) with rfl|hz
    · omega
    · exact h.1 z hz
theorem zlm:∀ l:List Int,(y0e l).Pairwise (· ≤·)
 | []=>by simp[y0e]
 | x::l=>zm9 x _ (zlm l)
theorem zth (l:List Int):Go.Ax.srt l=y0e l:=zy2 (zh5 l).symm (zlm l)
def zqy (L:List (List Rg)):List Int:=cpt (y0e (z3w L))
theorem zyn (L:List (List Rg)):z84 L=zqy L:=by rw[z84,zth];rfl
theorem y2d (N:Nat) (lv:List (List Rg)):zdh N lv=(List.range ((zqy (z9f N 0 lv)).length-1)).filterMap (cE N lv (zqy (z9f N 0 lv))):=by
 rw[zdh,zi0,zyn]
theorem y0a (op:Int) (l m:List Arc):z5i op l m=(List.range ((zqy [z3a l,z3a m]).length-1)).filterMap (prE op l m (zqy [z3a l,z3a m])):=by
 rw[z5i,z3s,zyn]
abbrev eS:Rx:=.mk 4 0 (-1) [] [.mk 2 0 0 [] [.mk 1 0 0 [(97,97)] [],.mk 1 0 0 [(98,98)] []]]
abbrev cA:Au:=⟨[true,false,true],[[(97,97,1)],[(98,98,2)],[(97,97,1)]]⟩
abbrev mA:Au:=⟨[true,false],[[(97,97,1)],[(98,98,0)]]⟩
abbrev pA:Au:=⟨[false,true,true,false],[[(0,96,1),(97,97,2),(98,1114111,1)],[(0,1114111,1)],[(0,97,1),(98,98,3),(99,1114111,1)],[(0,96,1),(97,97,2),(98,1114111,1)]]⟩
abbrev nA:Au:=⟨[false,true,true],[[(0,96,1),(97,97,2),(98,1114111,1)],[(0,1114111,1)],[(0,97,1),(98,98,0),(99,1114111,1)]]⟩
theorem y2o:bd eS tb0=(⟨[[(97,97)],[(98,98)]],[2,1]⟩,⟨1,2,true⟩):=by rfl
theorem y5n:zw4 eS=some cA:=by
 rw[zw4,zw3]
 simp only[y2d,y2o]
 kernel_rfl
theorem zx9:zf8 zxy.F cA.F zxy.A cA.A 3=some pA:=by
 rw[zf8]
 simp only[y0a]
 kernel_rfl
theorem zp0:z6i cA.F cA.A=some cA:=by kernel_rfl
theorem zru {F:List Bool} {A:List (List Arc)} (h:∀ q:Nat,q<F.length→z5l F A q):z3l F A=F.map fun _=>true:=by
 rw[z3l]
 refine List.ext_getElem (by simp) fun i h1 h2=>?_
 simp only[List.getElem_map,List.getElem_range]
 simp at h1
 have h2:=h i h1
 rw[← List.getElem_range (n:=F.length) (j:=i) (by simpa using h1)] at h2
 exact @decide_eq_true _ (_) h2
theorem zzw {F:List Bool} {A:List (List Arc)} (h:∀ q:Nat,q<F.length→z5l F A q):cl0 F A=F.map fun b=>if b=true then 1 else 0:=by
 rw[cl0,zru h]
 refine List.ext_getElem (by simp) fun i h1 h2=>?_
 simp at h1
 simp[h1]
theorem zsl {F:List Bool} {A:List (List Arc)} (h:∀ q:Nat,q<F.length→z5l F A q) (lim:Nat):zog F A lim=match zj0 A lim (F.length+1) 0 (F.map fun b=>if b=true then 1 else 0) with
 | none=>none
 | some cl=>if cl.getD 0 0<0 then some ⟨[false],[[]]⟩ else y4u F A cl lim:=by
 rw[zog,zx8,zzw h]
 generalize zj0 A lim (F.length+1) 0 (F.map fun b=>if b=true then 1 else 0)=o
 cases o <;> rfl
theorem y7f:∀ q:Nat,q<cA.F.length→z5l cA.F cA.A q:=fun q hq=>by
 have:q=0∨q=1∨q=2:=by simp at hq;omega
 have l2:z5l cA.F cA.A 2:=.fin 2 rfl
 rcases this with rfl|rfl|rfl
 · exact .fin 0 rfl
 · exact .arc 1 [(98,98,2)] (98,98,2) rfl (by simp) l2
 · exact l2
theorem y7k:∀ q:Nat,q<pA.F.length→z5l pA.F pA.A q:=fun q hq=>by
 have:q=0∨q=1∨q=2∨q=3:=by simp at hq;omega
 have l1:z5l pA.F pA.A 1:=.fin 1 rfl
 rcases this with rfl|rfl|rfl|rfl
 · exact .arc 0 _ (0,96,1) rfl (by simp) l1
 · exact l1
 · exact .fin 2 rfl
 · exact .arc 3 _ (0,96,1) rfl (by simp) l1
theorem y6s:zog cA.F cA.A 256=some mA:=by
 rw[zsl y7f]
 kernel_rfl
theorem y6z:zog pA.F pA.A 256=some nA:=by
 rw[zsl y7k]
 kernel_rfl
theorem y7o:val eS=0:=by rfl
theorem y8b:fit eS:=by simp[fit,y2q]
theorem y83 (N:Nat):(z3w (z9f N 0 [[(97,97)],[(98,98)]])).length≤12:=by
 simp only[z9f]
 split <;> split <;> simp[z3w,ends]
theorem zpg:∀ {l:List Arc} {p:Option Arc},okA p l→(l.map fun x=>x.1).Pairwise (· <·)
 | [],_,_=>List.Pairwise.nil
 | x::l,p,h=>by
  rw[List.map_cons,List.pairwise_cons]
  refine⟨fun z hz=>?_,zpg h.2.2.2⟩
  obtain⟨e,he,rfl⟩:=List.mem_map.1 hz
  have:=zge h.2.2.2 e he
  have:=h.1
  omega
theorem zii {l:List Arc} {p:Option Arc} (h:okA p l) (hr:∀ x∈l,0≤x.1∧x.1≤1114111):l.length≤1114112:=by
 have:=zj5 (B:=1114111) (zpg h) fun z hz=>by
  obtain⟨e,he,rfl⟩:=List.mem_map.1 hz
  have:=hr e he
  omega
 rw[zA4] at this
 exact this
theorem zry {B:Nat}:∀ {A:List (List Arc)},(∀ l∈A,l.length≤B)→(A.map List.length).sum≤A.length*B
 | [],_=>by simp
 | l::A,h=>by
  rw[List.map_cons,List.sum_cons,zAk,Nat.succ_mul]
  have:=h l (by simp)
  have:=zry (A:=A) fun m hm=>h m (by simp[hm])
  omega
theorem zd7 {a:Au} (h:vAu a=0):zbn a.F a.A∧∀ l∈a.A,l.length≤1114112:=by
 have hv:=z3r h
 have hl:∀ l∈a.A,l.length≤1114112:=fun l hl=>zii (hv.arc l hl).1 fun x hx=>by have:=(hv.arc l hl).2 x hx;omega
 have hs:=zry hl
 have h1:=hv.few
 have h2:=hv.len
 have h3:a.A.length*1114112≤256*1114112:=Nat.mul_le_mul_right _ (by omega)
 exact⟨⟨hv.len,fun l h=>⟨(hv.arc l h).1,by have:=hl l h;omega,(hv.arc l h).2⟩,by omega,hv.pos,by omega⟩,hl⟩
theorem zqz {a:Au} (h:vAu a=0):z57 a:=by
 have h1:=(zd7 h).1
 have h2:=h1.len
 have h3:=h1.few
 exact⟨by omega,by omega,fun l hl=>by have:=(zd7 h).2 l hl;omega⟩
theorem okC:zbn cA.F cA.A:=(zd7 (a:=cA) (by kernel_rfl)).1
theorem y6q:zbn pA.F pA.A:=(zd7 (a:=pA) (by kernel_rfl)).1
theorem y6x:zbn zxy.F zxy.A:=(zd7 (a:=zxy) (by kernel_rfl)).1
theorem y53:z57 cA:=⟨by decide,by decide,by decide⟩
theorem y5x:z57 nA:=⟨by decide,by decide,by decide⟩
theorem y1h:z57 zxy:=⟨by decide,by decide,by decide⟩
theorem y2c:z08 Tryz.prog 33 [.d (Drx eS)] (.tup [.d (auD cA),I .i64 0]):=by
 have h:=zst zl2 (by decide) eS y8b y7o (by rw[y2o];exact y44) (by rw[y2o];decide) (by rw[y2o];decide) (by rw[y2o];decide) (by rw[y2o];exact y83)
 rw[y5n] at h
 exact h
theorem y3t:z08 Tryz.prog 21 [.d (auD cA)] (.tup [.d (auD mA),I .i64 0]):=by
 have hm:zml cA=mA:=by rw[zml,zp0,Option.getD_some,y6s];rfl
 have h:=zn6 cA y53 (by kernel_rfl) okC (by rw[zp0];exact okC)
 rw[hm] at h
 exact h
theorem y3o:z08 Tryz.prog 26 [.d (auD cA)] (.tup [.d (auD nA),I .i64 0]):=by
 have h:=y74 zl2 (by decide) zxy cA 3 y1h y53 (by kernel_rfl) (by kernel_rfl) (by decide) (by decide) y6x okC (n:=1) (m:=1) (by decide) (by decide) (by decide) (fun x hx=>by rw[zx9] at hx;simp only[zAh] at hx;rw[← hx];exact y6q)
 rw[y8m,zx9,Option.bind_some,y6z] at h
 exact y0g cA ⟨nA,0,rfl⟩ h
theorem y5l:y6d nA ⟨#[97]⟩=true:=by kernel_rfl
theorem y3g:y6d nA ⟨#[]⟩=false:=by kernel_rfl
attribute [local irreducible] Run Ops Op1 z1d Val Tr z08 z13 NF Rel z2h z2g zb9
theorem y0t (τ:Tab):z13 Tryz.prog 18 [] (zfw τ 0) [] (B true):=by
 refine z1e fun H hH=>?_
 have hX0:=hH ((0,700),.glob 0 τ.o0) (by simp)
 have hX1:=hH ((0,701),.glob 1 τ.o1) (by simp)
 have p1:=zww τ
 have q1:=y2c
 have q2:=y3t
 have q3:=y3o
 have q4:=y4b nA y5x (by decide) ⟨#[97]⟩ (by decide)
 have q5:=y4b nA y5x (by decide) ⟨#[]⟩ (by decide)
 rw[y5l] at q4
 rw[y3g] at q5
 refine z03 Tryz.func18 (by kernel_rfl) rfl (by simp) ?_
 dsimp only[Tryz.f18]
 refine z99 700 0 700 hX0 ?_
 refine z99 701 0 701 (z0q hX1 (by simp)) ?_
 repeat' (first|(apply z01;(refine z04 (z4f rfl (by decide) rfl rfl) rfl rfl ?_))|(apply z06;(first|refine z34 p1 rfl rfl (by decide) ?_|refine z1i q1 ?_| refine z1i q2 ?_| refine z1i q3 ?_| refine z1i q4 ?_| refine z1i q5 ?_))|refine stq ?_|fail)
 all_goals try (exfalso;first|omega|(simp at *;done))
 all_goals refine z9h (raw:=.glob 0 τ.o0) 700 0 700 (z0q (z1s _ (0,700) _) (by simp)) ?_
 all_goals refine z9h (raw:=.glob 1 τ.o1) 701 0 701 (z0q (z1s _ (0,701) _) (by simp)) ?_
 all_goals exact z05 Tryz.func18 _ z0e ⟨rfl,zce hX0 hX1⟩
def lgA (n:Int) (a:Au):Bool:=decide (n<a.F.length)||decide (n+1<a.A.length)||a.A.any fun l=>decide (12<l.length)
theorem zz9 (n:Int) (hn:0≤n∧n≤1000) (L:List Au) (hl:L.length≤10) (hf:∀ a∈L,z57 a):z08 Tryz.prog 15 [I .i64 n,.d (.slice (L.map auc))] (B (L.any (lgA n))):=by
 refine z0g fun H=>?_
 refine z03 Tryz.func15 (by kernel_rfl) rfl (by simp) ?_
 dsimp only[Tryz.f15]
 repeat' (first|refine stq ?_|fail)
 all_goals try (exfalso;omega)
 refine z0a ?_
 refine z00 (z0p (fun q:Nat=>⟨40,[(0,I .i64 n),(4,B false),(9,.d (.slice (L.map auc))),(10,I .i64 L.length),(11,I .i64 (q:Nat))],[],H⟩) (fun q=>q≤L.length∧(L.drop q).any (lgA n)=L.any (lgA n)) (fun q=>L.length-q) ?_ 0 ⟨zAf _,rfl⟩) rfl rfl
 intro i ⟨i1,i2⟩ ih
 by_cases hlt:i<L.length
 · obtain⟨a,ha⟩:∃ a,L[i]? =some a:=⟨_,zA0 hlt⟩
   have hfa:=hf a (zA2 ha)
   rw[drop_cons ha,List.any_cons,lgA] at i2
   obtain⟨f1,f2,f3⟩:=hfa
   by_cases h1:n<a.F.length
   · rw[zAi h1,Bool.true_or,Bool.true_or,Bool.true_or] at i2
     exact zD64
   by_cases h2:n+1<a.A.length
   · rw[zAi h2,Bool.or_true,Bool.true_or,Bool.true_or] at i2
     exact zD64
   rw[zAo h1,zAo h2,Bool.false_or,Bool.false_or] at i2
   repeat' (first|(apply z01;(refine z04 (z0k (ys:=L.map auc) rfl (idx (g:=auc) ha)) rfl rfl ?_))|(apply z11;(refine z04 (z16 z1h) rfl rfl ?_))|refine stq ?_|refine fk (fun _=>?_) (fun _=>?_))
   all_goals try (exfalso;omega)
   refine z0a ?_
   refine z00 (z0p (fun q:Nat=>⟨40,[(0,I .i64 n),(4,B false),(9,.d (.slice (L.map auc))),(10,I .i64 L.length),(11,I .i64 (i:Nat)),(29,.d (.slice (a.A.map z25))),(30,I .i64 a.A.length),(31,I .i64 (q:Nat))],[],H⟩) (fun q=>q≤a.A.length∧(((a.A.drop q).any fun l=>decide (12<l.length))||(L.drop (i+1)).any (lgA n))=L.any (lgA n)) (fun q=>a.A.length-q) ?_ 0 ⟨zAf _,i2⟩) rfl rfl
   intro j ⟨j1,j2⟩ ihj
   by_cases hj:j<a.A.length
   · obtain⟨l,hl2⟩:∃ l,a.A[j]? =some l:=⟨_,zA0 hj⟩
     have hll:=f3 l (zA2 hl2)
     rw[drop_cons hl2,List.any_cons] at j2
     by_cases h3:12<l.length
     · rw[zAi h3,Bool.true_or,Bool.true_or] at j2
       rw[← j2]
       repeat' (first|(apply z01;(refine z04 (z0k (ys:=a.A.map z25) rfl (idx (g:=z25) hl2)) rfl rfl ?_))|refine stq ?_|refine fk (fun _=>?_) (fun _=>?_))
       all_goals try (exfalso;omega)
       all_goals exact z05 Tryz.func15 _ z0e ⟨rfl,rfl⟩
     · rw[zAo h3,Bool.false_or] at j2
       have ih':=ihj (j+1) ⟨by omega,j2⟩ (by omega)
       repeat' (first|(apply z01;(refine z04 (z0k (ys:=a.A.map z25) rfl (idx (g:=z25) hl2)) rfl rfl ?_))|refine stq ?_|refine fk (fun _=>?_) (fun _=>?_))
       all_goals exact zD8
   · obtain rfl:j=a.A.length:=by omega
     rw[zAs,List.any_nil,Bool.false_or] at j2
     have ih':=ih (i+1) ⟨by omega,j2⟩ (by omega)
     all_goals exact zD28
 · obtain rfl:i=L.length:=by omega
   rw[zAs,List.any_nil] at i2
   rw[← i2]
   repeat' (first|refine stq ?_|refine fk (fun _=>?_) (fun _=>?_))
   all_goals try (exfalso;omega)
   all_goals exact z05 Tryz.func15 _ z0e ⟨rfl,rfl⟩
open Go.Ab Go.Ax Go.Rx Go.ChangeShapes Go.WideShapes Go.ChangeAt Go.RowKit
theorem y6b {ds:List D} (h:ShL Tryz.prog [21,21,3] ds):∃ a:Arc,ds=z1k a:=by
 obtain⟨a,_,rfl,h1,b,_,rfl,h2,c,_,rfl,h3,rfl⟩:=h
 obtain⟨x,rfl,_⟩:=h1.inv_int (k:=.i32) (by kernel_rfl)
 obtain⟨y,rfl,_⟩:=h2.inv_int (k:=.i32) (by kernel_rfl)
 obtain⟨z,rfl,_⟩:=h3.inv_int (k:=.i64) (by kernel_rfl)
 exact⟨(x,y,z),rfl⟩
theorem zz8 {ds:List D} (h:Sh Tryz.prog 39 ds):∃ l:List Arc,ds=z25 l∧l.length≤9223372036854775807:=by
 obtain⟨l,rfl,hl,_⟩:=h.inv_list (e:=38) z1k (fun _=>True) (by kernel_rfl) fun x hx=>by
  obtain⟨a,rfl⟩:=y6b (hx.inv_fields (ts:=[21,21,3]) (by kernel_rfl))
  exact⟨a,rfl,trivial⟩
 exact⟨l,rfl,hl⟩
theorem y30 {ds:List D} (h:Sh Tryz.prog 22 ds):∃ l:List Bool,ds=[z56 l]∧l.length≤9223372036854775807:=by
 obtain⟨l,rfl,hl,_⟩:=h.inv_list (e:=4) boc (fun _=>True) (by kernel_rfl) fun x hx=>by
  cases hx with
  | bool _ b _=>exact⟨b,rfl,trivial⟩
  | int t k z hu _ _=>exact absurd (hu.symm.trans (show Tryz.prog.underlying 4=some .bool by kernel_rfl)) (by simp)
  | str t z hu _=>exact absurd (hu.symm.trans (show Tryz.prog.underlying 4=some .bool by kernel_rfl)) (by simp)
  | slice t _ _ hu _ _=>exact absurd (hu.symm.trans (show Tryz.prog.underlying 4=some .bool by kernel_rfl)) (by simp)
  | struct t _ _ hu _ _=>exact absurd (hu.symm.trans (show Tryz.prog.underlying 4=some .bool by kernel_rfl)) (by simp)
 exact⟨l,rfl,hl⟩
theorem y85 {ds:List D} (h:ShL Tryz.prog [22,23] ds):∃ a:Au,ds=auc a∧z57 a:=by
 obtain⟨a,_,rfl,h1,b,_,rfl,h2,rfl⟩:=h
 obtain⟨F,rfl,hF⟩:=y30 h1
 obtain⟨A,rfl,hA,hl⟩:=h2.inv_list (e:=39) z25 (fun l=>l.length≤9223372036854775807) (by kernel_rfl) fun x hx=>zz8 hx
 exact⟨⟨F,A⟩,rfl,hF,hA,hl⟩
theorem y3z {H:Type} {enc:TypeId × Value→H} {W:World} {v:Value} {d:DataW H} {p:List MemPlace} {r:Reach} {b0:Nat} (hsep:∀ g o v,zqg g→W.cell? ⟨g,o,none⟩=some v→∃ z,v=.int .u8 z) (hval:Value.okWide Tryz.prog W r b0 25 v)
 (h:DataW.Trod enc Tryz.prog W 0 (fun _=>true) true 25 v d p):∃ a:Au,z57 a∧DR W zqg (auD a) v:=by
 obtain⟨ds,h1,h2,_⟩:=zua hsep (G:=[25,22,23,4,39,38,21,3]) (by kernel_rfl) (by kernel_rfl) (by decide) hval h
 obtain⟨fs,u25,_⟩:=z6t (show fieldTypes Tryz.prog 25=some [22,23] by kernel_rfl)
 obtain⟨a,rfl,ha⟩:=y85 (h1.inv_fields (ts:=[22,23]) (by kernel_rfl))
 exact⟨a,ha,h2 ⟨fs,u25⟩⟩
end Go.Proofs.YthdfkabdoidjfaaGreatDoor
namespace Go.Proofs.YthdfkabdoidjfaaGreatDoor
open Go.Ab Go.Ax Go.Rx
set_option maxHeartbeats 20000000
set_option maxRecDepth 100000
attribute [local irreducible] Run Ops Op1 z1d Val Tr z08 z13 NF Rel z2h z2g zb9
theorem y3h {n:Int} {a:Au} (h:¬ lgA n a=true) (hl:z57 a):∀ l∈a.A,l.length≤12:=fun l hl=>by
 rw[lgA,zAu,not_or,List.any_eq_true] at h
 by_cases hc:l.length≤12
 · exact hc
 · exact absurd ⟨l,hl,zAi (by omega)⟩ h.2
theorem z8c {a:Au} (h:vAu a=0):AuW a:=by
 have hv:=z3r h
 exact⟨hv.len,hv.arc,hv.pos⟩
theorem zmr {a:Au} (hv:AuW a) (hn:a.F.length≤256):zbn a.F a.A:=by
 have hl:∀ l∈a.A,l.length≤1114112:=fun l hl=>zii (hv.arc l hl).1 fun x hx=>by have:=(hv.arc l hl).2 x hx;omega
 have hs:=zry hl
 have h2:=hv.len
 have h3:a.A.length*1114112≤256*1114112:=Nat.mul_le_mul_right _ (by omega)
 exact⟨hv.len,fun l h=>⟨(hv.arc l h).1,by have:=hl l h;omega,(hv.arc l h).2⟩,by omega,hv.pos,by omega⟩
theorem y69 {n:Nat} (cl:List Int) (hl:cl.length=n) (q:Nat) (hq:q<n):stQ cl (cl.getD q 0)<n∧cl.getD (stQ cl (cl.getD q 0)) 0=cl.getD q 0:=by
 exact zD114
theorem zsw {a:Au} (h:AuW a) (hn:a.F.length≤256):∃ m,zog a.F a.A 256=some m∧Nrm m∧AuW m∧m.F.length≤a.F.length∧∀ w,m.acc 0 w=a.acc 0 w:=by
 obtain⟨cl,hcl,m,hm,h1⟩:=zwr h hn (st:=stQ) fun cl hl q hq=>y69 cl hl q hq
 refine⟨m,?_,h1⟩
 rw[zog,hcl]
 exact hm
theorem zj2 {a:Au} (h:AuW a):∃ b,z6i a.F a.A=some b∧AuW b∧b.F.length≤a.F.length∧∀ w,b.acc 0 w=a.acc 0 w:=by
 obtain⟨b,hb,h1⟩:=znd h
 exact⟨b,hb,h1⟩
theorem zbf {a:Au} (h:AuW a) (hn:a.F.length≤256):Nrm (zml a)∧AuW (zml a)∧(zml a).F.length≤a.F.length∧(∀ w,(zml a).acc 0 w=a.acc 0 w)∧zbn ((z6i a.F a.A).getD ⟨[],[]⟩).F ((z6i a.F a.A).getD ⟨[],[]⟩).A:=by
 obtain⟨b,hb,b1,b2,b3⟩:=zj2 h
 obtain⟨m,hm,m1,m2,m3,m4⟩:=zsw b1 (by omega)
 have e:zml a=m:=by rw[zml,hb,Option.getD_some,hm];rfl
 rw[e,hb,Option.getD_some]
 exact⟨m1,m2,by omega,fun w=>by rw[m4,b3],zmr b1 (by omega)⟩
theorem zsz:∀ {n:Int} {l:List Arc} {p:Option Arc},okA p l→(∀ x∈l,0≤x.1∧x.1≤x.2.1∧x.2.1≤1114111∧0≤x.2.2∧x.2.2<n)→zfu n p l=0
 | n,[],p,_,_=>by cases p <;> rfl
 | n,x::l,p,h,hx=>by
  have h1:=hx x (by simp)
  have hb:¬ zrj n x=true:=by
   simp only[zrj,zAu,zA3,not_or];omega
  have ih:=zsz h.2.2.2 fun y hy=>hx y (by simp[hy])
  rw[z8z,zAy hb]
  cases p with
  | none=>exact ih
  | some y =>
   have h2:=h.2.2.1 y rfl
   have hb2:¬ zrg y x=true:=by
    simp only[zrg,zAu,zA7,zA3,not_or]
    refine⟨by omega,fun g=>h2.2 ⟨by omega,g.2.symm⟩⟩
   simp only
   rw[zAy hb2];exact ih
theorem zls {n:Int}:∀ {A:List (List Arc)},(∀ l∈A,zfu n none l=0)→z9n n A=0
 | [],_=>rfl
 | l::A,h=>by
  rw[z9n,zAy (by rw[h l (by simp)];simp)]
  exact zls fun m hm=>h m (by simp[hm])
theorem zwy {a:Au} (h:AuW a) (hn:a.F.length≤256):vAu a=0:=by
 have:=h.pos
 have:=h.len
 rw[vAu,zAy (by omega),zAy (by omega)]
 exact zls fun l hl=>zsz (h.arc l hl).1 (h.arc l hl).2
theorem y3w {x y:Operand} (r:Arc) (w:World) (own:Nat→Prop) (us vs:List Value) (hu:DR w own (.agg (z1k r)) (.agg us.toArray)) (hv:DR w own (.agg (z1k r)) (.agg vs.toArray)) :
 (do eqGuard .neq 38 x y (.agg us.toArray) (.agg vs.toArray);binOp .neq 38 (.agg us.toArray) (.agg vs.toArray):Sem Value).run Tryz.prog w=.ok (.bool false) w:=by
 have e1:=DR.lits (xs:=[.int .i32 r.1,.int .i32 r.2.1,.int .i64 r.2.2]) hu
 have e2:=DR.lits (xs:=[.int .i32 r.1,.int .i32 r.2.1,.int .i64 r.2.2]) hv
 subst e1 e2
 have hf:(Tryz.prog.fieldsOf 38).toList.map (fun f=>(f.name == "_",f.type,f.offset))=[(false,21,0),(false,21,1),(false,3,2)]:=by kernel_rfl
 have hu:Tryz.prog.underlying 38=some (.struct (Tryz.prog.fieldsOf 38)):=by kernel_rfl
 have hs:Tryz.prog.stoodInHeld 38=false:=by kernel_rfl
 have hg:Tryz.prog.eqGuardType Tryz.prog.depth 38=false:=by kernel_rfl
 have hint:Tryz.prog.underlying 21=some (.int .i32):=T21.int rfl
 have hint3:Tryz.prog.underlying 3=some (.int .i64):=T3.int rfl
 have ha3:∀ w,(isAgg 21).run Tryz.prog w=.ok false w:=fun w=>T21.isAgg w
 have ha4:∀ w,(isAgg 3).run Tryz.prog w=.ok false w:=fun w=>T3.isAgg w
 rw[Sem.run_bind,run_eqGuard_agg _ _ _ _ _ _ _ hg,Result.andThen_ok,run_neq_struct,run_equalIn_struct w 9999 38 _ _ hu hs]
 generalize (Tryz.prog.fieldsOf 38).toList=fs at hf
 obtain⟨f1,f2,f3,rfl⟩:∃ f1 f2 f3,fs=[f1,f2,f3]:=by
  have hl:=congrArg List.length hf
  simp only[zA4,zAk,List.length_nil] at hl
  match fs,hl with
  | [a,b,c],_=>exact⟨a,b,c,rfl⟩
 simp only[List.map_cons,List.map_nil,List.cons.injEq,Prod.mk.injEq,beq_eq_false_iff_ne,ne_eq,and_true] at hf
 obtain⟨⟨n1,t1,o1⟩,⟨n2,t2,o2⟩,n3,t3,o3⟩:=hf
 simp only[Op.eqFields,n1,n2,n3,ne_eq,not_false_eq_true,if_true,t1,t2,t3,o1,o2,o3,part,Sem.run_bind,ha3,ha4,Result.andThen_ok,Bool.false_eq_true,if_false]
 simp[run_equalIn_int _ _ _ _ _ _ _ hint,run_equalIn_int _ _ _ _ _ _ _ hint3]
theorem y38 (a:Au) (hf:z57 a):z08 Tryz.prog 23 [.d (auD a),.d (auD a)] (B true):=by
 refine z0g fun H=>?_
 obtain⟨F,A⟩:=a
 obtain⟨f1,f2,f3⟩:=hf
 simp only at f1 f2 f3
 refine z03 Tryz.func23 (by kernel_rfl) rfl (by simp) ?_
 dsimp only[Tryz.f23]
 repeat' (first|(apply z0w;(refine z07 z2b ?_))|refine stq ?_|refine fk (fun _=>?_) (fun _=>?_))
 all_goals try (exfalso;first|omega|(simp at *;done))
 refine z0a ?_
 refine z00 (z0p (fun q:Nat=>⟨89,[(2,.ptr (0,2) 0),(3,.ptr (0,3) 0),(4,B false),(26,I .i64 F.length),(27,I .i64 (q:Nat))],[(2,.box [.d (z56 F),.d (.slice (A.map z25))]),(3,.box [.d (z56 F),.d (.slice (A.map z25))])],H⟩) (fun q=>q≤F.length) (fun q=>F.length-q) ?_ 0 (zAf _)) rfl rfl
 intro i hi ih
 by_cases hlt:i<F.length
 · obtain⟨b,hb⟩:∃ b,F[i]? =some b:=⟨_,zA0 hlt⟩
   have ih':=ih (i+1) (by omega) (by omega)
   cases b
   all_goals repeat' (first|(apply z02;(refine z09 (z0k (ys:=F.map boc) rfl (idx (g:=boc) hb)) rfl rfl ?_))|refine stq ?_|refine fk (fun _=>?_) (fun _=>?_))
   all_goals exact zD18
 · obtain rfl:i=F.length:=by omega
   clear ih
   repeat' (first|refine stq ?_|refine fk (fun _=>?_) (fun _=>?_))
   all_goals try (exfalso;omega)
   refine z0a ?_
   refine z00 (z0p (fun q:Nat=>⟨89,[(2,.ptr (0,2) 0),(3,.ptr (0,3) 0),(4,B false),(44,I .i64 A.length),(45,I .i64 (q:Nat))],[(2,.box [.d (z56 F),.d (.slice (A.map z25))]),(3,.box [.d (z56 F),.d (.slice (A.map z25))])],H⟩) (fun q=>q≤A.length) (fun q=>A.length-q) ?_ 0 (zAf _)) rfl rfl
   intro j hj ih
   by_cases hjt:j<A.length
   · obtain⟨l,hl⟩:∃ l,A[j]? =some l:=⟨_,zA0 hjt⟩
     have hll:=f3 l (zA2 hl)
     have ih':=ih (j+1) (by omega) (by omega)
     repeat' (first|(apply z01;(refine z04 (z0k (ys:=A.map z25) rfl (idx (g:=z25) hl)) rfl rfl ?_))|(apply z02;(refine z09 (z0k (ys:=A.map z25) rfl (idx (g:=z25) hl)) rfl rfl ?_))|refine stq ?_|refine fk (fun _=>?_) (fun _=>?_))
     all_goals try (exfalso;first|omega|(simp at *;done))
     refine z0a ?_
     refine z00 (z0p (fun q:Nat=>⟨89,[(2,.ptr (0,2) 0),(3,.ptr (0,3) 0),(4,B false),(6,I .i64 (j:Nat)),(44,I .i64 A.length),(45,I .i64 (j:Nat)),(66,I .i64 l.length),(67,I .i64 (q:Nat))],[(2,.box [.d (z56 F),.d (.slice (A.map z25))]),(3,.box [.d (z56 F),.d (.slice (A.map z25))])],H⟩) (fun q=>q≤l.length) (fun q=>l.length-q) ?_ 0 (zAf _)) rfl rfl
     intro k hk ihk
     by_cases hkt:k<l.length
     · obtain⟨x,hx⟩:∃ x,l[k]? =some x:=⟨_,zA0 hkt⟩
       have ihk':=ihk (k+1) (by omega) (by omega)
       repeat' (first|(apply z02;(first|refine z09 (z0k (ys:=A.map z25) rfl (idx (g:=z25) hl)) rfl rfl ?_| refine z09 (z0k (ys:=l.map z1k) rfl (idx (g:=z1k) hx)) rfl rfl ?_))|(apply z0z;(refine z09 (zqk (op:=.neq) (tx:=38) (y3w x)) rfl rfl ?_))|refine stq ?_|refine fk (fun _=>?_) (fun _=>?_))
       all_goals try (exfalso;first|omega|(simp at *;done))
       all_goals exact z00 ihk' rfl rfl
     · obtain rfl:k=l.length:=by omega
       clear ihk
       all_goals exact zD28
   · obtain rfl:j=A.length:=by omega
     clear ih
     repeat' (first|refine stq ?_|refine fk (fun _=>?_) (fun _=>?_))
     all_goals try (exfalso;omega)
     all_goals exact z05 Tryz.func23 _ z0e ⟨rfl,rfl⟩
theorem zqn {n:Int} {a:Au} (h:¬ lgA n a=true):a.F.length≤n∧a.A.length≤n+1:=by
 rw[lgA,zAu,zAu,not_or,not_or,zA3,zA3] at h
 omega
end Go.Proofs.YthdfkabdoidjfaaGreatDoor
