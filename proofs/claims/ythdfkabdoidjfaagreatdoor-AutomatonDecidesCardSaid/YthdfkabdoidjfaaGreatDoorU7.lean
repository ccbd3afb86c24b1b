/- A part of the proof: A10 to R7. -/
import Derived.Test.YthdfkabdoidjfaaGreatDoorUc
import Derived.Test.YthdfkabdoidjfaaGreatDoorU1
import Derived.Test.YthdfkabdoidjfaaGreatDoorUy
import Derived.Test.YthdfkabdoidjfaaGreatDoorUb
import Derived.Test.YthdfkabdoidjfaaGreatDoorU4
import Derived.Test.YthdfkabdoidjfaaGreatDoorU3
set_option linter.all false
namespace Go.Proofs.YthdfkabdoidjfaaGreatDoor
open Go.Ab Go.Ax Go.Rx
set_option maxHeartbeats 20000000
set_option maxRecDepth 100000
attribute [local irreducible] Run Ops Op1 z1d Val Tr z08 z13 NF Rel z2h z2g
abbrev z4b (l:List Int):D:=.slice (l.map fun x=>[z0v x])
def zdt (l:List Int) (i:Nat):Int:=match l[i+1]? with|some x=>x-1|none=>1114111
theorem y86 (l:List Int) (hl:l.length≤1000000) (hr:∀ x∈l,0≤x∧x≤1114112) (i:Nat) (hi:i<l.length):z08 Tryz.prog 93 [.d (z4b l),I .i64 (i:Nat)] (I .i32 (zdt l i)):=by
 refine z0g fun H=>?_
 refine z03 Tryz.func93 (by kernel_rfl) rfl (by simp) ?_
 dsimp only[Tryz.f93]
 rw[zdt]
 by_cases hlt:i+1<l.length
 · obtain⟨x,hx⟩:∃ x,l[i+1]? =some x:=⟨_,zA0 hlt⟩
   have hxr:=hr x (zA2 hx)
   have hxi:l[(((i:Nat):Int)+1).toNat]? =some x:=by rw[show (((i:Nat):Int)+1).toNat=i+1 by omega];exact hx
   rw[hx]
   simp only
   repeat' (first|(apply z01;(refine z04 (z0k (ys:=l.map fun x=>[z0v x]) rfl (z4k (g:=fun x=>[z0v x]) hxi)) rfl rfl ?_))|(apply z11;(refine z04 (z1j (z8h (by omega) (by omega))) rfl rfl ?_))|refine stq ?_|refine fk (fun _=>?_) (fun _=>?_))
   all_goals try (exfalso;omega)
   all_goals exact z05 Tryz.func93 _ z0e ⟨rfl,rfl⟩
 · rw[zAv (by omega)]
   simp only
   repeat' (first|refine stq ?_|refine fk (fun _=>?_) (fun _=>?_))
   all_goals try (exfalso;omega)
   all_goals exact z05 Tryz.func93 _ z0e ⟨rfl,rfl⟩
theorem zgk (l:List Int) (c:Int) (hl:l.length≤1000000):z08 Tryz.prog 114 [.d (z4b l),I .i32 c] (.d (z4b (ptI l c))):=by
 refine z0g fun H=>?_
 refine z03 Tryz.func114 (by kernel_rfl) rfl (by simp) ?_
 dsimp only[Tryz.f114]
 obtain⟨k0,hk0⟩:∃ k,zfb l c l.length=k:=⟨_,rfl⟩
 rw[ptI,hk0]
 repeat' (first|refine stq ?_|fail)
 all_goals try (exfalso;omega)
 refine z0a ?_
 refine z00 (z0p (fun q:Nat=>⟨48,[(0,.d (z4b l)),(1,I .i32 c),(5,I .i64 (q:Nat))],[],H⟩) (fun q=>q≤l.length∧zfb l c q=k0) (fun q=>q) ?_ l.length ⟨zAj _,hk0⟩) rfl rfl
 rintro q ⟨i1,i2⟩ ih
 have hq0:((q:Nat):Int).toNat=q:=by omega
 by_cases h0:q=0
 · have hyi:l[(((q:Nat):Int)-1).toNat]? =l[(((q:Nat):Int)-1).toNat]?:=rfl
   rw[h0,zfb] at i2
   obtain rfl:k0=q:=by omega
   clear ih
   by_cases hb:1114111<c
   · rw[zAz (.inl hb)]
     repeat' (first|(apply z5s;(first|refine z09 (z74 (q:=l) (g:=fun x=>[z0v x]) rfl (by omega) (by omega) (fun _=>rfl)) rfl rfl ?_| refine z09 (z9i (q:=l) (g:=fun x=>[z0v x]) rfl (by omega) (by omega) (fun _=>rfl)) rfl rfl ?_))|(apply z43;(first|refine zi5 (r:=l.take k0) (g:=fun x=>[z0v x]) (by first|exact rfl|exact⟨_,rfl,rfl,rfl⟩) rfl rfl rfl (fun _=>rfl) rfl rfl (by decide) (by rw[zAm];omega) ?_|refine z55 (g:=fun x=>[z0v x]) (by first|exact rfl|exact⟨_,rfl,rfl,rfl⟩) rfl rfl c rfl rfl rfl rfl rfl rfl rfl (by decide) (by rw[zAm];omega) ?_|refine zcl (r:=l.drop k0) (g:=fun x=>[z0v x]) (by first|exact rfl|exact⟨_,rfl,rfl,rfl⟩) rfl rfl rfl rfl rfl (fun _=>rfl) rfl rfl (by decide) (by rw[zAa,zAm,List.length_drop,zAn];omega) ?_))|refine stq ?_|refine fk (fun _=>?_) (fun _=>?_))
     all_goals try (exfalso;omega)
     all_goals exact z05 Tryz.func114 _ z0e ⟨rfl,rfl⟩
   · rw[zAy (by omega)]
     repeat' (first|(apply z5s;(first|refine z09 (z74 (q:=l) (g:=fun x=>[z0v x]) rfl (by omega) (by omega) (fun _=>rfl)) rfl rfl ?_| refine z09 (z9i (q:=l) (g:=fun x=>[z0v x]) rfl (by omega) (by omega) (fun _=>rfl)) rfl rfl ?_))|(apply z43;(first|refine zi5 (r:=l.take k0) (g:=fun x=>[z0v x]) (by first|exact rfl|exact⟨_,rfl,rfl,rfl⟩) rfl rfl rfl (fun _=>rfl) rfl rfl (by decide) (by rw[zAm];omega) ?_|refine z55 (g:=fun x=>[z0v x]) (by first|exact rfl|exact⟨_,rfl,rfl,rfl⟩) rfl rfl c rfl rfl rfl rfl rfl rfl rfl (by decide) (by rw[zAm];omega) ?_|refine zcl (r:=l.drop k0) (g:=fun x=>[z0v x]) (by first|exact rfl|exact⟨_,rfl,rfl,rfl⟩) rfl rfl rfl rfl rfl (fun _=>rfl) rfl rfl (by decide) (by rw[zAa,zAm,List.length_drop,zAn];omega) ?_))|refine stq ?_|refine fk (fun _=>?_) (fun _=>?_))
     all_goals exact zD126
 · obtain⟨p,rfl⟩:∃ p,q=p+1:=⟨q-1,by omega⟩
   obtain⟨y,hy⟩:∃ y,l[p]? =some y:=⟨_,zA0 (by omega)⟩
   have hyi:l[(((p+1:Nat):Int)-1).toNat]? =some y:=by rw[show (((p+1:Nat):Int)-1).toNat=p by omega];exact hy
   rw[zfb,z1n hy] at i2
   by_cases hc:c<y
   · rw[zAz hc] at i2
     have ih':=ih p ⟨by omega,i2⟩ (by omega)
     clear ih
     repeat' (first|(apply z01;(refine z04 (z0k (ys:=l.map fun x=>[z0v x]) rfl (z4k (g:=fun x=>[z0v x]) hyi)) rfl rfl ?_))|refine stq ?_|refine fk (fun _=>?_) (fun _=>?_))
     all_goals try (exfalso;omega)
     all_goals rw[show ((p+1:Nat):Int)-1=(p:Nat) by omega]
     all_goals exact z00 ih' rfl rfl
   · rw[zAy hc] at i2
     obtain rfl:k0=p+1:=by omega
     clear ih
     rw[show p+1-1=p by omega,z1n hy]
     by_cases hb:1114111<c∨y=c
     · rw[zAz (by omega)]
       repeat' (first|(apply z01;(refine z04 (z0k (ys:=l.map fun x=>[z0v x]) rfl (z4k (g:=fun x=>[z0v x]) hyi)) rfl rfl ?_))|(apply z5s;(first|refine z09 (z74 (q:=l) (g:=fun x=>[z0v x]) rfl (by omega) (by omega) (fun _=>rfl)) rfl rfl ?_| refine z09 (z9i (q:=l) (g:=fun x=>[z0v x]) rfl (by omega) (by omega) (fun _=>rfl)) rfl rfl ?_))|(apply z43;(first|refine zi5 (r:=l.take (p+1)) (g:=fun x=>[z0v x]) (by first|exact rfl|exact⟨_,rfl,rfl,rfl⟩) rfl rfl rfl (fun _=>rfl) rfl rfl (by decide) (by rw[zAm];omega) ?_|refine z55 (g:=fun x=>[z0v x]) (by first|exact rfl|exact⟨_,rfl,rfl,rfl⟩) rfl rfl c rfl rfl rfl rfl rfl rfl rfl (by decide) (by rw[zAm];omega) ?_|refine zcl (r:=l.drop (p+1)) (g:=fun x=>[z0v x]) (by first|exact rfl|exact⟨_,rfl,rfl,rfl⟩) rfl rfl rfl rfl rfl (fun _=>rfl) rfl rfl (by decide) (by rw[zAa,zAm,List.length_drop,zAn];omega) ?_))|refine stq ?_|refine fk (fun _=>?_) (fun _=>?_))
       all_goals try (exfalso;omega)
       all_goals exact z05 Tryz.func114 _ z0e ⟨rfl,rfl⟩
     · rw[zAy (by omega)]
       repeat' (first|(apply z01;(refine z04 (z0k (ys:=l.map fun x=>[z0v x]) rfl (z4k (g:=fun x=>[z0v x]) hyi)) rfl rfl ?_))|(apply z5s;(first|refine z09 (z74 (q:=l) (g:=fun x=>[z0v x]) rfl (by omega) (by omega) (fun _=>rfl)) rfl rfl ?_| refine z09 (z9i (q:=l) (g:=fun x=>[z0v x]) rfl (by omega) (by omega) (fun _=>rfl)) rfl rfl ?_))|(apply z43;(first|refine zi5 (r:=l.take (p+1)) (g:=fun x=>[z0v x]) (by first|exact rfl|exact⟨_,rfl,rfl,rfl⟩) rfl rfl rfl (fun _=>rfl) rfl rfl (by decide) (by rw[zAm];omega) ?_|refine z55 (g:=fun x=>[z0v x]) (by first|exact rfl|exact⟨_,rfl,rfl,rfl⟩) rfl rfl c rfl rfl rfl rfl rfl rfl rfl (by decide) (by rw[zAm];omega) ?_|refine zcl (r:=l.drop (p+1)) (g:=fun x=>[z0v x]) (by first|exact rfl|exact⟨_,rfl,rfl,rfl⟩) rfl rfl rfl rfl rfl (fun _=>rfl) rfl rfl (by decide) (by rw[zAa,zAm,List.length_drop,zAn];omega) ?_))|refine stq ?_|refine fk (fun _=>?_) (fun _=>?_))
       all_goals exact zD126
abbrev rgl (r:List Rg):List D:=[rgs r]
def zb3 (L:List Au):List (List Rg):=L.flatMap fun a=>a.A.map z3a
theorem zoz (L:List Au) (hL:L.length≤1000) (hA:∀ a∈L,a.A.length≤1000000∧∀ l∈a.A,l.length≤2000000):z08 Tryz.prog 87 [.d (.slice (L.map auc))] (.d (lvs (zb3 L))):=by
 refine z0g fun H=>?_
 refine z03 Tryz.func87 (by kernel_rfl) rfl (by simp) ?_
 dsimp only[Tryz.f87]
 repeat' (first|refine stq ?_|fail)
 all_goals try (exfalso;omega)
 refine z1m 3 1000 41 1 rfl rfl rfl ?_
 refine z0a ?_
 refine z00 (z0p (fun q:Nat × List (List Rg)=>⟨46,[(3,.ref (0,1000)),(11,.d (.slice (L.map auc))),(12,I .i64 L.length),(13,I .i64 (q.1:Nat))],[(1000,.row 41 1 (q.2.map rgl))],H⟩) (fun q=>q.1≤L.length∧q.2.length≤q.1*1000000∧q.2++zb3 (L.drop q.1)=zb3 L) (fun q=>L.length-q.1) ?_ (0,[]) ⟨zAf _,by simp,by simp⟩) rfl rfl
 rintro⟨i,acc⟩ ⟨i1,i3,i2⟩ ih
 simp only at i1 i2 i3 ih ⊢
 by_cases hlt:i<L.length
 · obtain⟨a,ha⟩:∃ a,L[i]? =some a:=⟨_,zA0 hlt⟩
   obtain⟨a1,a2⟩:=hA a (zA2 ha)
   rw[drop_cons ha,zb3,List.flatMap_cons,← zb3] at i2
   obtain⟨F,A⟩:=a
   simp only at a1 a2 i2
   repeat' (first|(apply z01;(refine z04 (z0k (ys:=L.map auc) rfl (idx (g:=auc) ha)) rfl rfl ?_))|refine stq ?_|refine fk (fun _=>?_) (fun _=>?_))
   all_goals try (exfalso;omega)
   refine z0a ?_
   refine z00 (z0p (fun q:Nat × List (List Rg)=>⟨46,[(3,.ref (0,1000)),(11,.d (.slice (L.map auc))),(12,I .i64 L.length),(13,I .i64 (i:Nat)),(18,.d (.slice (A.map z25))),(19,I .i64 A.length),(20,I .i64 (q.1:Nat))],[(1000,.row 41 1 (q.2.map rgl))],H⟩) (fun q=>q.1≤A.length∧q.2.length≤i*1000000+q.1∧q.2++((A.drop q.1).map z3a++zb3 (L.drop (i+1)))=zb3 L) (fun q=>A.length-q.1) ?_ (0,acc) ⟨zAf _,Nat.le_trans i3 (Nat.le_add_right _ _),i2⟩) rfl rfl
   rintro⟨j,acc2⟩ ⟨j1,j3,j2⟩ ihj
   simp only at j1 j2 j3 ihj ⊢
   by_cases hj:j<A.length
   · obtain⟨l,hl⟩:∃ l,A[j]? =some l:=⟨_,zA0 hj⟩
     have hll:=a2 l (zA2 hl)
     rw[drop_cons hl,List.map_cons,List.cons_append] at j2
     have ihj':=ihj (j+1,acc2++[z3a l]) ⟨by simp only;omega,by simp only[zAa,zAn];omega,by simp only;rw[← j2];simp⟩ (by simp only;omega)
     clear ihj ih
     repeat' (first|(apply z01;(refine z04 (z0k (ys:=A.map z25) rfl (idx (g:=z25) hl)) rfl rfl ?_))|refine stq ?_|refine fk (fun _=>?_) (fun _=>?_))
     all_goals try (exfalso;omega)
     refine z1m 8 1001 155 2 rfl rfl rfl ?_
     refine z0a ?_
     refine z00 (z0p (fun q:Nat=>⟨46,[(3,.ref (0,1000)),(8,.ref (0,1001)),(11,.d (.slice (L.map auc))),(12,I .i64 L.length),(13,I .i64 (i:Nat)),(18,.d (.slice (A.map z25))),(19,I .i64 A.length),(20,I .i64 (j:Nat)),(24,.d (z7t l)),(25,I .i64 l.length),(26,I .i64 (q:Nat))],[(1000,.row 41 1 (acc2.map rgl)),(1001,.row 155 2 (((z3a l).take q).map rgc))],H⟩) (fun q=>q≤l.length) (fun q=>l.length-q) ?_ 0 (zAf _)) rfl rfl
     rintro k k1 ihk
     by_cases hk:k<l.length
     · obtain⟨x,hx⟩:∃ x,l[k]? =some x:=⟨_,zA0 hk⟩
       have hr:(z3a l)[k]? =some (x.1,x.2.1):=by rw[z3a,zAd,hx];rfl
       have ih':=ihk (k+1) (by omega) (by omega)
       rw[z3n hr] at ih'
       have htl:((z3a l).take k).length≤2000000:=by rw[zAm];omega
       generalize (z3a l).take k=Q at *
       repeat' (first|(apply z01;(refine z04 (z0k (ys:=l.map z1k) rfl (idx hx)) rfl rfl ?_))|(apply z15;(refine z48 (g:=rgc) (x.1,x.2.1) rfl ?_))|refine stq ?_|refine fk (fun _=>?_) (fun _=>?_))
       all_goals try (exfalso;omega)
       all_goals refine z18 37 1001 ?_
       all_goals exact z00 ih' rfl rfl
     · obtain rfl:k=l.length:=by omega
       rw[show l.length=(z3a l).length by rw[z3a,zA4],List.take_length] at *
       clear ihk
       refine z0o 1001 rfl ?_
       repeat' (first|(apply z15;(refine z48 (g:=rgl) (z3a l) rfl ?_))|refine stq ?_|refine fk (fun _=>?_) (fun _=>?_))
       all_goals try (exfalso;omega)
       all_goals refine z18 42 1000 ?_
       all_goals exact z00 ihj' rfl rfl
   · obtain rfl:j=A.length:=by omega
     rw[zAs,List.map_nil,List.nil_append] at j2
     exact zD120
 · obtain rfl:i=L.length:=by omega
   rw[zAs,zb3,List.flatMap_nil,List.append_nil] at i2
   subst i2
   repeat' (first|refine stq ?_|refine fk (fun _=>?_) (fun _=>?_))
   all_goals try (exfalso;omega)
   all_goals refine z0o 1000 rfl ?_
   all_goals exact z05 Tryz.func87 _ z0e ⟨rfl,rfl⟩
theorem y2e (L:List (List Rg)) (hr:∀ r∈L,∀ x∈r,0≤x.1∧x.1≤1114111∧0≤x.2∧x.2≤1114111) (hL:L.length≤1000) (hl:∀ r∈L,r.length≤400):z08 Tryz.prog 86 [.d (lvs L)] (.d (z4b (z8b L))):=by
 refine z0g fun H=>?_
 refine z03 Tryz.func86 (by kernel_rfl) rfl (by simp) ?_
 dsimp only[Tryz.f86]
 repeat' (first|refine stq ?_|fail)
 all_goals try (exfalso;omega)
 refine z0a ?_
 refine z00 (z0p (fun q:Nat × List Int=>⟨32,[(3,.d (z4b q.2)),(9,.d (lvs L)),(10,I .i64 L.length),(11,I .i64 (q.1:Nat))],[],H⟩) (fun q=>q.1≤L.length∧q.2.length≤q.1*800+1∧(L.drop q.1).foldl (fun l r=>r.foldl ptR l) q.2=z8b L) (fun q=>L.length-q.1) ?_ (0,[0]) ⟨zAf _,by simp,by simp[z8b]⟩) rfl rfl
 rintro⟨i,acc⟩ ⟨i1,i3,i2⟩ ih
 simp only at i1 i2 i3 ih ⊢
 by_cases hlt:i<L.length
 · obtain⟨r,hri⟩:∃ r,L[i]? =some r:=⟨_,zA0 hlt⟩
   have hrm:=zA2 hri
   have hrr:=hr r hrm
   have hrl:=hl r hrm
   rw[drop_cons hri,List.foldl_cons] at i2
   repeat' (first|(apply z01;(refine z04 (z0k (ys:=L.map rgl) rfl (idx (g:=rgl) hri)) rfl rfl ?_))|refine stq ?_|refine fk (fun _=>?_) (fun _=>?_))
   all_goals try (exfalso;omega)
   refine z0a ?_
   refine z00 (z0p (fun q:Nat × List Int=>⟨32,[(3,.d (z4b q.2)),(9,.d (lvs L)),(10,I .i64 L.length),(11,I .i64 (i:Nat)),(15,.d (rgs r)),(16,I .i64 r.length),(17,I .i64 (q.1:Nat))],[],H⟩) (fun q=>q.1≤r.length∧q.2.length≤i*800+1+2*q.1∧(L.drop (i+1)).foldl (fun l r=>r.foldl ptR l) ((r.drop q.1).foldl ptR q.2)=z8b L) (fun q=>r.length-q.1) ?_ (0,acc) ⟨zAf _,Nat.le_trans i3 (Nat.le_add_right _ _),i2⟩) rfl rfl
   rintro⟨j,acc2⟩ ⟨j1,j3,j2⟩ ihj
   simp only at j1 j2 j3 ihj ⊢
   by_cases hj:j<r.length
   · obtain⟨x,hx⟩:∃ x,r[j]? =some x:=⟨_,zA0 hj⟩
     obtain⟨x1,x2,x3,x4⟩:=hrr x (zA2 hx)
     rw[drop_cons hx,List.foldl_cons] at j2
     have hle:=zsn acc2 x
     have hle1:=zj7 acc2 x.1
     have ihj':=ihj (j+1,ptR acc2 x) ⟨by simp only;omega,by simp only;omega,j2⟩ (by simp only;omega)
     have h1:=zgk acc2 x.1 (by omega)
     have h2:=zgk (ptI acc2 x.1) (x.2+1) (by omega)
     rw[ptR] at ihj'
     generalize ptI acc2 x.1=L1 at *
     generalize ptI L1 (x.2+1)=L2 at *
     clear ihj ih
     repeat' (first|(apply z01;(refine z04 (z0k (ys:=r.map rgc) rfl (idx (g:=rgc) hx)) rfl rfl ?_))|(apply z0z;(refine z09 (z16 (z8h (by omega) (by omega))) rfl rfl ?_))|(apply z0l;(first|refine z36 h1 ?_| refine z36 h2 ?_))|refine stq ?_|refine fk (fun _=>?_) (fun _=>?_))
     all_goals try (exfalso;omega)
     all_goals exact z00 ihj' rfl rfl
   · obtain rfl:j=r.length:=by omega
     rw[zAs,List.foldl_nil] at j2
     exact zD120
 · obtain rfl:i=L.length:=by omega
   rw[zAs,List.foldl_nil] at i2
   rw[← i2]
   repeat' (first|refine stq ?_|refine fk (fun _=>?_) (fun _=>?_))
   all_goals try (exfalso;omega)
   all_goals exact z05 Tryz.func86 _ z0e ⟨rfl,rfl⟩
theorem zmb (m:List Arc) (y:Arc) (f t q:Int) (hl:m.length≤1000000) (hf:0≤f∧f≤1114111) (h1:y.2.1+1=f) (h2:y.2.2=q) :
 z13 Tryz.prog 92 [.ref (0,1000),I .i32 f,I .i32 t,I .i64 q] [((0,1000),.row 38 3 ((m++[y]).map z1k))] [((0,1000),.row 38 3 ((m++[(y.1,t,y.2.2)]).map z1k))] (.ref (0,1000)):=by
 refine z1e fun H hH=>?_
 have hX:=hH ((0,1000),.row 38 3 ((m++[y]).map z1k)) (by simp)
 have hal2:(m++[y]).length=m.length+1:=by simp
 have hal:((m++[y]).map z1k).length=m.length+1:=by simp
 have hix:(m++[y])[(((((m++[y]).length:Nat):Int)-1)).toNat]? =some y:=by
  exact zD104
 have hse:(m++[y]).set (((((m++[y]).length:Nat):Int)-1)).toNat ((y.1,t,y.2.2):Arc)=m++[(y.1,t,y.2.2)]:=by
  exact zD104
 refine z03 Tryz.func92 (by kernel_rfl) rfl (by simp) ?_
 dsimp only[Tryz.f92]
 refine z1o 1000 0 1000 hX rfl rfl ?_
 repeat' (first|(apply z1c;(first|refine z04 (z0x (u:=z0v y.2.1) hix) rfl rfl ?_| refine z04 (z0x (u:=z0u y.2.2) hix) rfl rfl ?_))|(apply z01;(refine z04 (z2n rfl) rfl rfl ?_))|(apply z11;(refine z04 (z1j (z8h (by omega) (by omega))) rfl rfl ?_))|(apply z15;(first|refine z04 (z0s rfl) rfl rfl ?_| refine z48 (g:=z1k) (f,t,q) rfl ?_))|(apply z0n;(refine z23 ((y.1,t,y.2.2):Arc) hix hse ?_))|refine stq ?_|refine fk (fun _=>?_) (fun _=>?_))
 all_goals try (exfalso;omega)
 all_goals refine z3d (raw:=.row 38 3 ((m++[(y.1,t,y.2.2)]).map z1k)) 1000 0 1000 ?_
 all_goals refine zvz 101000 8 rfl rfl ?_
 all_goals refine z05 Tryz.func92 _ (zy0 (.ref (0,1000)) rfl rfl) ⟨rfl,?_⟩
 all_goals simp[z5k,z1t]
theorem zbv (l:List Arc) (f t q:Int) (hl:l.length≤1000000) (hf:0≤f∧f≤1114111) (hn:∀ y,z7g none l=some y→¬ (y.2.1+1=f∧y.2.2=q)) (H:Hf) (hX:H 0 1000=some (.row 38 3 (l.map z1k))) :
 Ab.Spec Tryz.prog 92 [.ref (0,1000),I .i32 f,I .i32 t,I .i64 q] H (fun r H'=>r=.new (.row 38 3 ((l++[(f,t,q)]).map z1k))∧H'=upd H (0,1000) .gone):=by
 rcases zft l with rfl|⟨m,y,rfl⟩
 · refine z03 Tryz.func92 (by kernel_rfl) rfl (by simp) ?_
   dsimp only[Tryz.f92]
   refine z1o 1000 0 1000 hX rfl rfl ?_
   repeat' (first|(apply z15;(first|refine z04 (z0s rfl) rfl rfl ?_| refine z45 (g:=z1k) rfl rfl (f,t,q) rfl rfl rfl rfl rfl rfl rfl (by decide) (by decide) ?_))|refine stq ?_|fail)
   all_goals try (exfalso;first|omega|(simp at *;done))
   all_goals refine z05 Tryz.func92 _ (zsq rfl rfl rfl) ⟨rfl,rfl⟩
 · have hy:=hn y (z1r m none y)
   have hal2:(m++[y]).length=m.length+1:=by simp
   have hal:((m++[y]).map z1k).length=m.length+1:=by simp
   have hix:(m++[y])[(((((m++[y]).length:Nat):Int)-1)).toNat]? =some y:=by
    exact zD104
   have hse:(m++[y]).set (((((m++[y]).length:Nat):Int)-1)).toNat ((y.1,t,y.2.2):Arc)=m++[(y.1,t,y.2.2)]:=by
    exact zD104
   refine z03 Tryz.func92 (by kernel_rfl) rfl (by simp) ?_
   dsimp only[Tryz.f92]
   refine z1o 1000 0 1000 hX rfl rfl ?_
   repeat' (first|(apply z1c;(first|refine z04 (z0x (u:=z0v y.2.1) hix) rfl rfl ?_| refine z04 (z0x (u:=z0u y.2.2) hix) rfl rfl ?_))|(apply z01;(refine z04 (z2n rfl) rfl rfl ?_))|(apply z11;(refine z04 (z1j (z8h (by omega) (by omega))) rfl rfl ?_))|(apply z15;(first|refine z04 (z0s rfl) rfl rfl ?_| refine z48 (g:=z1k) (f,t,q) rfl ?_))|(apply z0n;(refine z23 ((y.1,t,y.2.2):Arc) hix hse ?_))|refine stq ?_|refine fk (fun _=>?_) (fun _=>?_))
   all_goals try (exfalso;omega)
   all_goals refine z05 Tryz.func92 _ (zsq rfl rfl rfl) ⟨rfl,rfl⟩
theorem zpb {x y:Operand} (a b:Int × Int) (w:World) (own:Nat→Prop) (us vs:List Value) (hu:DR w own (.agg (pcc a)) (.agg us.toArray)) (hv:DR w own (.agg (pcc b)) (.agg vs.toArray)) :
 (do eqGuard .neq 129 x y (.agg us.toArray) (.agg vs.toArray);binOp .neq 129 (.agg us.toArray) (.agg vs.toArray):Sem Value).run Tryz.prog w=.ok (.bool (!decide (a=b))) w:=by
 obtain⟨a0,a1⟩:=a
 obtain⟨b0,b1⟩:=b
 have e1:=DR.lits (xs:=[.int .i64 a0,.int .i64 a1]) hu
 have e2:=DR.lits (xs:=[.int .i64 b0,.int .i64 b1]) hv
 subst e1 e2
 have hu:Tryz.prog.underlying 129=some (.array 2 3):=T129.array rfl
 have hg:Tryz.prog.eqGuardType Tryz.prog.depth 129=false:=by kernel_rfl
 have hint:Tryz.prog.underlying 3=some (.int .i64):=T3.int rfl
 have ha5:∀ w,(isAgg 3).run Tryz.prog w=.ok false w:=fun w=>T3.isAgg w
 have hc:Tryz.prog.cellsOf 3=1:=by kernel_rfl
 obtain⟨i,_,_,hi,_⟩:=T3.get
 rw[Sem.run_bind,run_eqGuard_agg _ _ _ _ _ _ _ hg,Result.andThen_ok,run_neq_struct,run_equalIn_array w 9999 _ _ hu hi,hc,show List.range 2=[0,1] from rfl]
 by_cases h0:a0=b0 <;> by_cases h1:a1=b1 <;>
  simp[Op.eqItems,part,ha5,run_equalIn_int _ _ _ _ _ _ _ hint,h0,h1]
theorem y42 (a:Au) (hA:a.A.length=a.F.length) (hl:∀ l∈a.A,l.length≤4611686018427387904) (q:Int) (h1:q<a.F.length) (c:Int):z08 Tryz.prog 43 [.d (auD a),I .i64 q,I .i32 c] (I .i64 (a.nx q c)):=by
 by_cases hq:q<0
 · rw[a.nx_neg hq];exact zp1 a q hq c
 · obtain⟨k,rfl⟩:∃ k:Nat,q=k:=⟨q.toNat,by omega⟩
   exact y1u a k (by omega) hl c
abbrev z62 (r:List Int):List D:=[ints r]
abbrev y9c (t:Tbl):List D:=[z4b t.P,z56 t.F,.slice (t.N.map z62)]
abbrev zyp (t:Tbl):D:=.agg (y9c t)
theorem y66:z08 Tryz.prog 47 [] (.d (auD zcu)):=by
 refine z0g fun H=>?_
 refine z03 Tryz.func47 (by kernel_rfl) rfl (by simp) ?_
 dsimp only[Tryz.f47]
 repeat' (first|refine stq ?_|fail)
 all_goals try (exfalso;omega)
 all_goals exact z05 Tryz.func47 _ (z39 rfl rfl rfl rfl rfl rfl) ⟨rfl,rfl⟩
theorem zpm {n:Int × Int} {L:List (Int × Int)} {k:Nat} {p:Int × Int} (hp:L[k]? =some p):z2r n (L.drop k)=if p=n then 0 else z2r n (L.drop (k+1))+1:=by
 rw[drop_cons hp,z2r]
theorem y1n (a b:Au) (op:Int) (ha:AuW a) (hb:AuW b) (hna:a.A.length≤400) (hnb:b.A.length≤400) (hla:∀ l∈a.A,l.length≤400) (hlb:∀ l∈b.A,l.length≤400) (hP:(z8b (zb3 [a,b])).length≤1000) (m:Nat) (hm:m≤1000000) (t:Tbl)
 (ht:prL a b (fun p q=>zxq p q op) (z8b (zb3 [a,b])) m 0 [(0,0)] [] []=some t):z08 Tryz.prog 46 [.d (auD a),.d (auD b),I .i64 op] (.d (zyp t)):=by
 refine z0g fun H=>?_
 have hrr:∀ r∈zb3 [a,b],r.length≤400∧∀ x∈r,0≤x.1∧x.1≤1114111∧0≤x.2∧x.2≤1114111:=fun r hr=>by
  rw[zb3,List.mem_flatMap] at hr
  obtain⟨c,hc,hr⟩:=hr
  obtain⟨l,hl,rfl⟩:=List.mem_map.1 hr
  have:l.length≤400∧∀ x∈l,0≤x.1∧x.1≤x.2.1∧x.2.1≤1114111:=by
   simp only[zAc,List.not_mem_nil,or_false] at hc
   rcases hc with rfl|rfl
   · exact⟨hla l hl,fun x hx=>by have:=(ha.arc l hl).2 x hx;omega⟩
   · exact⟨hlb l hl,fun x hx=>by have:=(hb.arc l hl).2 x hx;omega⟩
  refine⟨by rw[z3a,zA4];exact this.1,fun x hx=>?_⟩
  obtain⟨y,hy,rfl⟩:=List.mem_map.1 hx
  have:=this.2 y hy
  simp only;omega
 have hrg:=zoz [a,b] (by simp) fun c hc=>by
  simp only[zAc,List.not_mem_nil,or_false] at hc
  rcases hc with rfl|rfl
  · exact⟨by omega,fun l hl=>by have:=hla l hl;omega⟩
  · exact⟨by omega,fun l hl=>by have:=hlb l hl;omega⟩
 have hcu:=y2e (zb3 [a,b]) (fun r hr=>(hrr r hr).2) (by simp[zb3];omega) fun r hr=>(hrr r hr).1
 generalize zb3 [a,b]=RS at *
 generalize z8b RS=P at *
 have hacc1:=fun q h=>zgm a q h
 have hacc2:=fun q h=>zgm b q h
 have hnx1:=fun q h c=>y42 a ha.len (fun l hl=>by have:=hla l hl;omega) q h c
 have hnx2:=fun q h c=>y42 b hb.len (fun l hl=>by have:=hlb l hl;omega) q h c
 have hde:=fun p q=>zvr op p q
 obtain⟨Fa,Aa⟩:=a
 obtain⟨Fb,Ab'⟩:=b
 refine z03 Tryz.func46 (by kernel_rfl) rfl (by simp) ?_
 dsimp only[Tryz.f46]
 repeat' (first|(apply z06;(first|refine z1i hrg ?_| refine z1i hcu ?_))|(apply z0w;(refine z07 z2b ?_))|(apply zfh;(refine zb4 (e:=129) rfl rfl rfl rfl rfl rfl rfl rfl rfl (by decide) ?_))|refine stq ?_|(apply z0y;(refine ztw rfl rfl rfl rfl rfl rfl rfl (by decide) ?_)))
 all_goals try (exfalso;omega)
 refine z18 23 1000 ?_
 refine z2a 7 1 1001 4 1 rfl rfl rfl rfl ?_
 refine z2a 7 2 1002 94 1 rfl rfl rfl rfl ?_
 refine z0a ?_
 refine z00 (z0p (fun q:Nat × List (Int × Int) × List Bool × List (List Int)=>⟨101,[(2,I .i64 op),(3,.ptr (0,3) 0),(4,.ptr (0,4) 0),(6,.ptr (0,6) 0),(7,.ptr (0,7) 0),(8,.ref (0,1000)),(9,I .i64 (q.1:Nat))],[(3,.box [.d (z56 Fa),.d (.slice (Aa.map z25))]),(4,.box [.d (z56 Fb),.d (.slice (Ab'.map z25))]),(6,.box [.d (.lit z2c),.d (.lit z2c),.d (.lit z2c)]),(7,.box [.d (z4b P),.ref (0,1001),.ref (0,1002)]),(1000,.row 129 2 (q.2.1.map pcc)),(1001,.row 4 1 (q.2.2.1.map boc)),(1002,.row 94 1 (q.2.2.2.map z62))],H⟩)
  (fun q=>q.1≤m∧q.2.1.length≤1+q.1*1000∧q.2.2.1.length=q.1∧q.2.2.2.length=q.1∧(∀ p∈q.2.1,zo8 ⟨Fa,Aa⟩ ⟨Fb,Ab'⟩ p)∧prL ⟨Fa,Aa⟩ ⟨Fb,Ab'⟩ (fun p q=>zxq p q op) P (m-q.1) q.1 q.2.1 q.2.2.1 q.2.2.2=some t) (fun q=>m-q.1) ?_ (0,[(0,0)],[],[]) ⟨zAf _,by simp,rfl,rfl,by simp[zo8];exact⟨by have:=ha.pos;simpa using this,by have:=hb.pos;simpa using this⟩,ht⟩) rfl rfl
 rintro⟨i,L,F,N⟩ ⟨i1,i2,i3,i4,i5,i6⟩ ih
 simp only at i1 i2 i3 i4 i5 i6 ih ⊢
 obtain⟨fu,hfu⟩:∃ fu,m-i=fu+1:=by
  cases hh:m-i with
  | zero=>rw[hh,prL] at i6;cases i6
  | succ k=>exact⟨k,rfl⟩
 rw[hfu,prL] at i6
 by_cases hlt:i<L.length
 · obtain⟨p,hp⟩:∃ p,L[i]? =some p:=⟨_,zA0 hlt⟩
   rw[hp] at i6
   simp only at i6
   obtain⟨o1,o2,o3,o4⟩:=i5 p (zA2 hp)
   have ha1:=hacc1 p.1 o2
   have ha2:=hacc2 p.2 o4
   have hd1:=hde ((⟨Fa,Aa⟩:Au).fin p.1) ((⟨Fb,Ab'⟩:Au).fin p.2)
   have hn1:=hnx1 p.1 o2
   have hn2:=hnx2 p.2 o4
   have hnr1:=fun c=>ha.nx p.1 c
   have hnr2:=fun c=>hb.nx p.2 c
   generalize hfb:zxq ((⟨Fa,Aa⟩:Au).fin p.1) ((⟨Fb,Ab'⟩:Au).fin p.2) op=fb at *
   generalize (⟨Fa,Aa⟩:Au).fin p.1=fa1 at *
   generalize (⟨Fb,Ab'⟩:Au).fin p.2=fb1 at *
   clear hacc1 hacc2 hnx1 hnx2 hde
   repeat' (first|(apply z1c;(refine z04 (z4v hp rfl rfl) rfl rfl ?_))|(apply z01;(refine z04 (z10 rfl (by simp only[zA4];omega)) rfl rfl ?_))|(apply z02;(refine z09 (zlk rfl (by decide) (by decide) rfl) rfl rfl ?_))|(apply z43;(refine z55 (g:=boc) (by first|exact rfl|exact⟨_,rfl,rfl,rfl⟩) rfl rfl fb rfl rfl rfl rfl rfl rfl rfl (by decide) (by omega) ?_))|(apply z0l;(first|refine z36 ha1 ?_| refine z36 ha2 ?_| refine z36 hd1 ?_))|(apply z14;(refine z7x (by first|exact rfl|exact⟨_,rfl,rfl,rfl⟩) rfl rfl rfl rfl rfl ?_))|refine stq ?_|refine fk (fun _=>?_) (fun _=>?_))
   all_goals try (exfalso;simp only[zA4] at *;omega)
   refine z18 47 1001 ?_
   refine z1m 11 1003 3 1 rfl rfl rfl ?_
   refine z0a ?_
   refine z00 (z0p (fun q:Nat × List (Int × Int) × List Int=>⟨101,[(2,I .i64 op),(3,.ptr (0,3) 0),(4,.ptr (0,4) 0),(6,.ptr (0,6) 0),(7,.ptr (0,7) 0),(8,.ref (0,1000)),(9,I .i64 (i:Nat)),(10,.ptr (0,10) 0),(11,.ref (0,1003)),(50,.d (z4b P)),(51,I .i64 P.length),(52,I .i64 (q.1:Nat))],[(3,.box [.d (z56 Fa),.d (.slice (Aa.map z25))]),(4,.box [.d (z56 Fb),.d (.slice (Ab'.map z25))]),(6,.box [.d (.lit z2c),.d (.lit z2c),.d (.lit z2c)]),(7,.box [.d (z4b P),.ref (0,1001),.ref (0,1002)]),(10,.box [.d (z0u p.1),.d (z0u p.2)]),(1000,.row 129 2 (q.2.1.map pcc)),(1001,.row 4 1 ((F++[fb]).map boc)),(1002,.row 94 1 (N.map z62)),(1003,.row 3 1 (q.2.2.map icc))],H⟩)
    (fun q=>q.1≤P.length∧q.2.1.length≤1+i*1000+q.1∧q.2.2.length=q.1∧(∀ p∈q.2.1,zo8 ⟨Fa,Aa⟩ ⟨Fb,Ab'⟩ p)∧(P.drop q.1).foldl (zcr ⟨Fa,Aa⟩ ⟨Fb,Ab'⟩ p) q.2=P.foldl (zcr ⟨Fa,Aa⟩ ⟨Fb,Ab'⟩ p) (L,[])) (fun q=>P.length-q.1) ?_ (0,L,[]) ⟨zAf _,i2,rfl,i5,rfl⟩) rfl rfl
   rintro⟨j,L2,row⟩ ⟨j1,j2,j3,j4,j5⟩ ihj
   simp only at j1 j2 j3 j4 j5 ihj ⊢
   by_cases hjl:j<P.length
   · obtain⟨c,hc⟩:∃ c,P[j]? =some c:=⟨_,zA0 hjl⟩
     rw[drop_cons hc,List.foldl_cons,zcr] at j5
     simp only at j5
     have ih':=ihj (j+1,z5b L2 ((⟨Fa,Aa⟩:Au).nx p.1 c,(⟨Fb,Ab'⟩:Au).nx p.2 c),row++[((z2r ((⟨Fa,Aa⟩:Au).nx p.1 c,(⟨Fb,Ab'⟩:Au).nx p.2 c) L2:Nat):Int)]) ⟨by simp only;omega,by simp only;have:=z7s L2 ((⟨Fa,Aa⟩:Au).nx p.1 c,(⟨Fb,Ab'⟩:Au).nx p.2 c);omega,by simp[j3],fun q hq=>by
      rcases z7h hq with rfl|hq
      · have:=hnr1 c;have:=hnr2 c;exact⟨by omega,by omega,by omega,by omega⟩
      · exact j4 q hq,j5⟩ (by simp only;omega)
     have e1:=hn1 c
     have e2:=hn2 c
     have hkk:z2r ((⟨Fa,Aa⟩:Au).nx p.1 c,(⟨Fb,Ab'⟩:Au).nx p.2 c) L2≤L2.length:=zop _ _
     clear ihj hn1 hn2 hnr1 hnr2
     generalize (⟨Fa,Aa⟩:Au).nx p.1 c=n1 at *
     generalize (⟨Fb,Ab'⟩:Au).nx p.2 c=n2 at *
     repeat' (first|(apply z01;(refine z04 (z0k (ys:=P.map fun x=>[z0v x]) rfl (idx (g:=fun x=>[z0v x]) hc)) rfl rfl ?_))|(apply z02;(refine z09 (zlk rfl (by decide) (by decide) rfl) rfl rfl ?_))|(apply z0l;(first|refine z36 e1 ?_| refine z36 e2 ?_))|refine stq ?_|refine fk (fun _=>?_) (fun _=>?_)|(apply y2s;(refine zu3 (by first|exact rfl|exact⟨_,rfl,rfl,rfl⟩) rfl rfl rfl rfl rfl rfl rfl (by decide) ?_)))
     all_goals try (exfalso;simp only[zA4] at *;omega)
     refine z0a ?_
     refine z00 (z0p (fun k:Nat=>⟨101,[(2,I .i64 op),(3,.ptr (0,3) 0),(4,.ptr (0,4) 0),(6,.ptr (0,6) 0),(7,.ptr (0,7) 0),(8,.ref (0,1000)),(9,I .i64 (i:Nat)),(10,.ptr (0,10) 0),(11,.ref (0,1003)),(14,.ptr (0,14) 0),(15,I .i64 (k:Nat)),(50,.d (z4b P)),(51,I .i64 P.length),(52,I .i64 (j:Nat))],[(3,.box [.d (z56 Fa),.d (.slice (Aa.map z25))]),(4,.box [.d (z56 Fb),.d (.slice (Ab'.map z25))]),(6,.box [.d (.lit z2c),.d (.lit z2c),.d (.lit z2c)]),(7,.box [.d (z4b P),.ref (0,1001),.ref (0,1002)]),(10,.box [.d (z0u p.1),.d (z0u p.2)]),(14,.box [.d (z0u n1),.d (z0u n2)]),(1000,.row 129 2 (L2.map pcc)),(1001,.row 4 1 ((F++[fb]).map boc)),(1002,.row 94 1 (N.map z62)),(1003,.row 3 1 (row.map icc))],H⟩) (fun k=>k≤L2.length∧k+z2r (n1,n2) (L2.drop k)=z2r (n1,n2) L2) (fun k=>L2.length-k) ?_ 0 ⟨zAf _,by simp⟩) rfl rfl
     rintro k ⟨k1,k2⟩ ihk
     by_cases hkl:k<L2.length
     · obtain⟨y,hy⟩:∃ y,L2[k]? =some y:=⟨_,zA0 hkl⟩
       rw[zpm hy] at k2
       by_cases hyn:y=(n1,n2)
       · rw[zAz hyn,Nat.add_zero] at k2
         rw[← k2] at ih'
         rw[z5b,zAz (hyn▸zA2 hy)] at ih'
         clear ihk
         have hneq:=zAi hyn
         repeat' (first|(apply z0b;(refine z09 (z4v hy rfl rfl) rfl rfl ?_))|(apply z02;(refine z09 (z10 rfl (by simp only[zA4];omega)) rfl rfl ?_))|(apply z0z;(refine z09 (zqk (op:=.neq) (tx:=129) (zpb y (n1,n2))) rfl rfl ?_))|(apply z15;(refine z48 (g:=icc) (k:Int) rfl ?_))|refine stq ?_|refine fk (fun _=>?_) (fun _=>?_)|(refine z19 (fun hg=>?_) (fun hg=>?_)<;> simp only[hg] <;> (try simp only[zA3,zA5,zA6,zA8] at hg)))
         all_goals try (exfalso;first|omega|(simp[hyn] at *;done)|(simp only[zA4] at *;omega))
         all_goals refine z18 92 1003 ?_
         all_goals exact z00 ih' rfl rfl
       · rw[zAy hyn] at k2
         have ihk':=ihk (k+1) ⟨by omega,by omega⟩ (by omega)
         clear ihk
         repeat' (first|(apply z0b;(refine z09 (z4v hy rfl rfl) rfl rfl ?_))|(apply z02;(refine z09 (z10 rfl (by simp only[zA4];omega)) rfl rfl ?_))|(apply z0z;(refine z09 (zqk (op:=.neq) (tx:=129) (zpb y (n1,n2))) rfl rfl ?_))|refine stq ?_|refine fk (fun _=>?_) (fun _=>?_)|(refine z19 (fun hg=>?_) (fun hg=>?_)<;> simp only[hg] <;> (try simp only[zA3,zA5,zA6,zA8] at hg)))
         all_goals try (exfalso;first|omega|(simp[hyn] at *;done)|(simp only[zA4] at *;omega))
         all_goals exact z00 ihk' rfl rfl
     · obtain rfl:k=L2.length:=by omega
       rw[zAs,z2r,Nat.add_zero] at k2
       have hnm:(n1,n2)∉L2:=fun hm=>by have:=(z2o hm).1;omega
       rw[← k2] at ih'
       rw[z5b,zAy hnm] at ih'
       clear ihk
       repeat' (first|(apply z15;(first|refine z48 (g:=pcc) (n1,n2) rfl ?_| refine z48 (g:=icc) (L2.length:Int) rfl ?_))|refine stq ?_|refine fk (fun _=>?_) (fun _=>?_)|(refine z19 (fun hg=>?_) (fun hg=>?_)<;> simp only[hg] <;> (try simp only[zA3,zA5,zA6,zA8] at hg)))
       all_goals try (exfalso;first|omega|(simp only[zA4] at *;omega))
       all_goals refine z18 88 1000 ?_
       all_goals refine z18 92 1003 ?_
       all_goals exact z00 ih' rfl rfl
   · obtain rfl:j=P.length:=by omega
     rw[zAs,List.foldl_nil] at j5
     rw[← j5] at i6
     simp only at i6
     have ih':=ih (i+1,L2,F++[fb],N++[row]) ⟨by omega,by simp only;omega,by simp[i3],by simp[i4],j4,by simp only;rw[show m-(i+1)=fu by omega];exact i6⟩ (by simp only;omega)
     clear ihj ih hn1 hn2 hnr1 hnr2
     refine z0o 1003 rfl ?_
     repeat' (first|(apply z15;(refine z48 (g:=z62) row rfl ?_))|refine stq ?_|refine fk (fun _=>?_) (fun _=>?_))
     all_goals try (exfalso;omega)
     all_goals refine z18 98 1002 ?_
     all_goals exact z00 ih' rfl rfl
 · rw[zAv (by omega)] at i6
   simp only[zAh] at i6
   subst i6
   clear ih
   refine z0o 1001 rfl ?_
   refine z0o 1002 rfl ?_
   repeat' (first|refine stq ?_|refine fk (fun _=>?_) (fun _=>?_))
   all_goals try (exfalso;omega)
   all_goals exact z05 Tryz.func46 _ (z39 rfl rfl rfl rfl rfl rfl) ⟨rfl,rfl⟩
theorem zlz {t:Tbl} (hW:z8g t) {i:Nat} (hi:i<t.F.length):∃ r,t.N[i]? =some r∧t.row i=r∧r.length=t.P.length∧∀ n∈r,0≤n∧n<t.F.length:=by
 obtain⟨r,hr⟩:∃ r,t.N[i]? =some r:=⟨_,zA0 (by rw[hW.len];exact hi)⟩
 exact⟨r,hr,by rw[Tbl.row,List.getD,hr];rfl,hW.row r (zA2 hr)⟩
theorem zra {l:List Int} {n:Int} {m:Nat} (hl:l.length=m) (h:0≤n∧n<m):∃ x,l[n.toNat]? =some x∧cAt l n=x:=by
 obtain⟨x,hx⟩:∃ x,l[n.toNat]? =some x:=⟨_,zA0 (by omega)⟩
 exact⟨x,hx,by rw[cAt,z1n hx]⟩
theorem y1l (t:Tbl) (hW:z8g t) (hn:t.F.length≤1000000) (hP:t.P.length≤1000) (c:List Int) (hc:c.length=t.F.length) (i k:Nat) (hi:i<t.F.length) (hk:k<t.F.length) :
 z08 Tryz.prog 115 [.d (zyp t),.d (ints c),I .i64 (i:Nat),I .i64 (k:Nat)] (B (t.alk c i k)):=by
 refine z0g fun H=>?_
 obtain⟨ri,hri,ri1,ri2,ri3⟩:=zlz hW hi
 obtain⟨rk,hrk,rk1,rk2,rk3⟩:=zlz hW hk
 obtain⟨ci,hci⟩:∃ x,c[i]? =some x:=⟨_,zA0 (by omega)⟩
 obtain⟨ck,hck⟩:∃ x,c[k]? =some x:=⟨_,zA0 (by omega)⟩
 rw[Tbl.alk,ri1,rk1,z1n hci,z1n hck]
 have hNl:=hW.len
 clear hW ri1 rk1
 obtain⟨P,F,N⟩:=t
 simp only at hn hP hc hi hk hri ri2 ri3 hrk rk2 rk3 hNl ⊢
 obtain⟨res,hres⟩:∃ b,zud c ri rk=b:=⟨_,rfl⟩
 rw[hres]
 refine z03 Tryz.func115 (by kernel_rfl) rfl (by simp) ?_
 dsimp only[Tryz.f115]
 by_cases he:ci=ck
 · rw[zAi he,Bool.true_and]
   repeat' (first|(apply z02;(first|refine z09 (z0k (ys:=c.map fun x=>[z0u x]) rfl (idx (g:=fun x=>[z0u x]) hci)) rfl rfl ?_| refine z09 (z0k (ys:=c.map fun x=>[z0u x]) rfl (idx (g:=fun x=>[z0u x]) hck)) rfl rfl ?_))|(apply z0w;(refine z07 z2b ?_))|refine stq ?_|refine fk (fun _=>?_) (fun _=>?_))
   all_goals try (exfalso;omega)
   refine z0a ?_
   refine z00 (z0p (fun q:Nat=>⟨49,[(1,.d (ints c)),(2,I .i64 (i:Nat)),(3,I .i64 (k:Nat)),(4,.ptr (0,4) 0),(20,.d (z4b P)),(21,I .i64 P.length),(22,I .i64 (q:Nat))],[(4,.box [.d (z4b P),.d (z56 F),.d (.slice (N.map z62))])],H⟩) (fun q=>q≤P.length∧zud c (ri.drop q) (rk.drop q)=res) (fun q=>P.length-q) ?_ 0 ⟨zAf _,hres⟩) rfl rfl
   rintro q ⟨q1,q2⟩ ih
   by_cases hq:q<P.length
   · obtain⟨x,hx⟩:∃ x,ri[q]? =some x:=⟨_,zA0 (by omega)⟩
     obtain⟨y,hy⟩:∃ x,rk[q]? =some x:=⟨_,zA0 (by omega)⟩
     have hxr:=ri3 x (zA2 hx)
     have hyr:=rk3 y (zA2 hy)
     obtain⟨cx,hcx,hcx'⟩:=zra hc hxr
     obtain⟨cy,hcy,hcy'⟩:=zra hc hyr
     rw[drop_cons hx,drop_cons hy,zud,hcx',hcy'] at q2
     by_cases hxy:cx=cy
     · rw[zAi hxy,Bool.true_and] at q2
       have ih':=ih (q+1) ⟨by omega,q2⟩ (by omega)
       repeat' (first|(apply z02;(first|refine z09 (z0k (ys:=N.map z62) rfl (idx (g:=z62) hri)) rfl rfl ?_| refine z09 (z0k (ys:=N.map z62) rfl (idx (g:=z62) hrk)) rfl rfl ?_| refine z09 (z0k (ys:=ri.map fun x=>[z0u x]) rfl (idx (g:=fun x=>[z0u x]) hx)) rfl rfl ?_| refine z09 (z0k (ys:=rk.map fun x=>[z0u x]) rfl (idx (g:=fun x=>[z0u x]) hy)) rfl rfl ?_| refine z09 (z0k (ys:=c.map fun x=>[z0u x]) rfl (z4k (g:=fun x=>[z0u x]) hcx)) rfl rfl ?_| refine z09 (z0k (ys:=c.map fun x=>[z0u x]) rfl (z4k (g:=fun x=>[z0u x]) hcy)) rfl rfl ?_))|refine stq ?_|refine fk (fun _=>?_) (fun _=>?_))
       all_goals exact zD8
     · rw[zAo hxy,Bool.false_and] at q2
       rw[← q2]
       clear ih
       repeat' (first|(apply z02;(first|refine z09 (z0k (ys:=N.map z62) rfl (idx (g:=z62) hri)) rfl rfl ?_| refine z09 (z0k (ys:=N.map z62) rfl (idx (g:=z62) hrk)) rfl rfl ?_| refine z09 (z0k (ys:=ri.map fun x=>[z0u x]) rfl (idx (g:=fun x=>[z0u x]) hx)) rfl rfl ?_| refine z09 (z0k (ys:=rk.map fun x=>[z0u x]) rfl (idx (g:=fun x=>[z0u x]) hy)) rfl rfl ?_| refine z09 (z0k (ys:=c.map fun x=>[z0u x]) rfl (z4k (g:=fun x=>[z0u x]) hcx)) rfl rfl ?_| refine z09 (z0k (ys:=c.map fun x=>[z0u x]) rfl (z4k (g:=fun x=>[z0u x]) hcy)) rfl rfl ?_))|refine stq ?_|refine fk (fun _=>?_) (fun _=>?_))
       all_goals exact zD109
   · rw[show ri.drop q=[] from List.drop_eq_nil_iff.2 (by omega),show rk.drop q=[] from List.drop_eq_nil_iff.2 (by omega),show zud c [] []=true from rfl] at q2
     rw[← q2]
     clear ih
     repeat' (first|refine stq ?_|refine fk (fun _=>?_) (fun _=>?_))
     all_goals exact zD109
 · rw[zAo he,Bool.false_and]
   repeat' (first|(apply z02;(first|refine z09 (z0k (ys:=c.map fun x=>[z0u x]) rfl (idx (g:=fun x=>[z0u x]) hci)) rfl rfl ?_| refine z09 (z0k (ys:=c.map fun x=>[z0u x]) rfl (idx (g:=fun x=>[z0u x]) hck)) rfl rfl ?_))|(apply z0w;(refine z07 z2b ?_))|refine stq ?_|refine fk (fun _=>?_) (fun _=>?_))
   all_goals exact zD109
theorem zzo (t:Tbl) (n:Nat) (hn:n≤1000000) (c d:List Int) (hc:c.length=n) (hd:d.length=n):z08 Tryz.prog 116 [.d (zyp t),.d (ints c),.d (ints d)] (B (Go.Ax.spl c d n)):=by
 refine z0g fun H=>?_
 obtain⟨res,hres⟩:∃ b,Go.Ax.spl c d n=b:=⟨_,rfl⟩
 rw[hres]
 rw[Go.Ax.spl] at hres
 obtain⟨P,F,N⟩:=t
 refine z03 Tryz.func116 (by kernel_rfl) rfl (by simp) ?_
 dsimp only[Tryz.f116]
 repeat' (first|(apply z0w;(refine z07 z2b ?_))|refine stq ?_|fail)
 all_goals try (exfalso;omega)
 refine z0a ?_
 refine z00 (z0p (fun q:Nat=>⟨40,[(1,.d (ints c)),(2,.d (ints d)),(10,I .i64 c.length),(11,I .i64 (q:Nat))],[],H⟩) (fun q=>q≤n∧zjs (fun i=>zjs (y1g c d i) i 0) (n-q) q=res) (fun q=>n-q) ?_ 0 ⟨zAf _,hres⟩) rfl rfl
 rintro i ⟨i1,i2⟩ ih
 by_cases hi:i<n
 · obtain⟨ci,hci⟩:∃ x,c[i]? =some x:=⟨_,zA0 (by omega)⟩
   obtain⟨di,hdi⟩:∃ x,d[i]? =some x:=⟨_,zA0 (by omega)⟩
   rw[show n-i=(n-(i+1))+1 by omega,zjs] at i2
   repeat' (first|refine stq ?_|refine fk (fun _=>?_) (fun _=>?_))
   all_goals try (exfalso;omega)
   refine z0a ?_
   refine z00 (z0p (fun q:Nat=>⟨40,[(1,.d (ints c)),(2,.d (ints d)),(7,I .i64 (i:Nat)),(8,I .i64 (q:Nat)),(10,I .i64 c.length),(11,I .i64 (i:Nat))],[],H⟩) (fun q=>q≤i∧(zjs (y1g c d i) (i-q) q||zjs (fun i=>zjs (y1g c d i) i 0) (n-(i+1)) (i+1))=res) (fun q=>i-q) ?_ 0 ⟨zAf _,i2⟩) rfl rfl
   rintro k ⟨k1,k2⟩ ihk
   by_cases hk:k<i
   · obtain⟨ck,hck⟩:∃ x,c[k]? =some x:=⟨_,zA0 (by omega)⟩
     obtain⟨dk,hdk⟩:∃ x,d[k]? =some x:=⟨_,zA0 (by omega)⟩
     rw[show i-k=(i-(k+1))+1 by omega,zjs,y1g,z1n hci,z1n hck,z1n hdi,z1n hdk] at k2
     by_cases hcd:ci=ck∧di≠dk
     · rw[zAi hcd.1,zAi hcd.2,Bool.true_and,Bool.true_or,Bool.true_or] at k2
       rw[← k2]
       obtain⟨h1,h2⟩:=hcd
       clear ih ihk
       repeat' (first|(apply z02;(first|refine z09 (z0k (ys:=c.map fun x=>[z0u x]) rfl (idx (g:=fun x=>[z0u x]) hci)) rfl rfl ?_| refine z09 (z0k (ys:=c.map fun x=>[z0u x]) rfl (idx (g:=fun x=>[z0u x]) hck)) rfl rfl ?_| refine z09 (z0k (ys:=d.map fun x=>[z0u x]) rfl (idx (g:=fun x=>[z0u x]) hdi)) rfl rfl ?_| refine z09 (z0k (ys:=d.map fun x=>[z0u x]) rfl (idx (g:=fun x=>[z0u x]) hdk)) rfl rfl ?_))|refine stq ?_|refine fk (fun _=>?_) (fun _=>?_)|(refine z19 (fun hg=>?_) (fun hg=>?_)<;> simp only[hg] <;> (try simp only[zA3,zA5,zA6,zA8] at hg)))
       all_goals try (exfalso;omega)
       all_goals exact z05 Tryz.func116 _ z0e ⟨rfl,rfl⟩
     · have hf:(decide (ci=ck)&&decide (di≠dk))=false:=by rw[← Bool.decide_and];exact zAo hcd
       rw[hf,Bool.false_or] at k2
       have ih':=ihk (k+1) ⟨by omega,k2⟩ (by omega)
       clear ih ihk
       repeat' (first|(apply z02;(first|refine z09 (z0k (ys:=c.map fun x=>[z0u x]) rfl (idx (g:=fun x=>[z0u x]) hci)) rfl rfl ?_| refine z09 (z0k (ys:=c.map fun x=>[z0u x]) rfl (idx (g:=fun x=>[z0u x]) hck)) rfl rfl ?_| refine z09 (z0k (ys:=d.map fun x=>[z0u x]) rfl (idx (g:=fun x=>[z0u x]) hdi)) rfl rfl ?_| refine z09 (z0k (ys:=d.map fun x=>[z0u x]) rfl (idx (g:=fun x=>[z0u x]) hdk)) rfl rfl ?_))|refine stq ?_|refine fk (fun _=>?_) (fun _=>?_)|(refine z19 (fun hg=>?_) (fun hg=>?_)<;> simp only[hg] <;> (try simp only[zA3,zA5,zA6,zA8] at hg)))
       all_goals try (exfalso;first|omega|exact hcd ⟨by omega,by omega⟩)
       all_goals exact z00 ih' rfl rfl
   · obtain rfl:k=i:=by omega
     rw[Nat.sub_self,zjs,Bool.false_or] at k2
     have ih':=ih (k+1) ⟨by omega,k2⟩ (by omega)
     clear ih ihk
     all_goals exact zD28
 · obtain rfl:i=n:=by omega
   rw[Nat.sub_self,zjs] at i2
   rw[← i2]
   clear ih
   repeat' (first|refine stq ?_|refine fk (fun _=>?_) (fun _=>?_))
   all_goals try (exfalso;omega)
   all_goals exact z05 Tryz.func116 _ z0e ⟨rfl,rfl⟩
theorem y5u (t:Tbl) (hW:z8g t) (hn:t.F.length≤1000000) (hP:t.P.length≤1000):z08 Tryz.prog 91 [.d (zyp t)] (.d (z56 t.live)):=by
 refine z0g fun H=>?_
 obtain⟨res,hres⟩:∃ b,t.lvT t.F.length t.F=b:=⟨_,rfl⟩
 rw[Tbl.live,hres]
 have hrow:=fun i (hi:i<t.F.length)=>zlz hW hi
 obtain⟨P,F,N⟩:=t
 simp only at hn hP hrow hres
 refine z03 Tryz.func91 (by kernel_rfl) rfl (by simp) ?_
 dsimp only[Tryz.f91]
 repeat' (first|(apply z15;(first|refine y5t (r:=F) (g:=boc) rfl rfl rfl (fun _=>rfl) rfl rfl (by decide) (by omega) ?_|refine z04 (z0s rfl) rfl rfl ?_))|(apply z0w;(refine z07 z2b ?_))|refine stq ?_|fail)
 all_goals try (exfalso;omega)
 refine z18 9 1000 ?_
 refine z0a ?_
 refine z00 (z0p (fun q:Nat × List Bool=>⟨46,[(1,.ptr (0,1) 0),(3,.ref (0,1000)),(11,I .i64 F.length),(12,I .i64 (q.1:Nat))],[(1,.box [.d (z4b P),.d (z56 F),.d (.slice (N.map z62))]),(1000,.row 4 1 (q.2.map boc))],H⟩) (fun q=>q.1≤F.length∧q.2.length=F.length∧(⟨P,F,N⟩:Tbl).lvT (F.length-q.1) q.2=res) (fun q=>F.length-q.1) ?_ (0,F) ⟨zAf _,rfl,hres⟩) rfl rfl
 rintro⟨q,l⟩ ⟨q1,q2,q3⟩ ih
 simp only at q1 q2 q3 ih ⊢
 by_cases hq:q<F.length
 · rw[show F.length-q=(F.length-(q+1))+1 by omega,Tbl.lvT] at q3
   repeat' (first|(apply z15;(refine z04 (z0s rfl) rfl rfl ?_))|refine stq ?_|refine fk (fun _=>?_) (fun _=>?_))
   all_goals try (exfalso;omega)
   refine z0a ?_
   refine z00 (z0p (fun s:Nat × List Bool=>⟨46,[(1,.ptr (0,1) 0),(3,.ref (0,1000)),(11,I .i64 F.length),(12,I .i64 (q:Nat)),(15,I .i64 l.length),(16,I .i64 (s.1:Nat))],[(1,.box [.d (z4b P),.d (z56 F),.d (.slice (N.map z62))]),(1000,.row 4 1 (s.2.map boc))],H⟩) (fun s=>s.1≤F.length∧s.2.length=F.length∧(⟨P,F,N⟩:Tbl).lvT (F.length-(q+1)) ((⟨P,F,N⟩:Tbl).lvRnd (F.length-s.1) s.1 s.2)=res) (fun s=>F.length-s.1) ?_ (0,l) ⟨zAf _,q2,q3⟩) rfl rfl
   rintro⟨i,l2⟩ ⟨i1,i2,i3⟩ ihi
   simp only at i1 i2 i3 ihi ⊢
   by_cases hi:i<F.length
   · obtain⟨r,hr,hr1,hr2,hr3⟩:=hrow i hi
     rw[show F.length-i=(F.length-(i+1))+1 by omega,Tbl.lvRnd,Tbl.lvRow,hr1] at i3
     repeat' (first|(apply z01;(refine z04 (z0k (ys:=N.map z62) rfl (idx (g:=z62) hr)) rfl rfl ?_))|refine stq ?_|refine fk (fun _=>?_) (fun _=>?_))
     all_goals try (exfalso;omega)
     refine z0a ?_
     refine z00 (z0p (fun s:Nat × List Bool=>⟨46,[(1,.ptr (0,1) 0),(3,.ref (0,1000)),(4,I .i64 (i:Nat)),(11,I .i64 F.length),(12,I .i64 (q:Nat)),(15,I .i64 l.length),(16,I .i64 (i:Nat)),(23,.d (ints r)),(24,I .i64 r.length),(25,I .i64 (s.1:Nat))],[(1,.box [.d (z4b P),.d (z56 F),.d (.slice (N.map z62))]),(1000,.row 4 1 (s.2.map boc))],H⟩) (fun s=>s.1≤r.length∧s.2.length=F.length∧(⟨P,F,N⟩:Tbl).lvT (F.length-(q+1)) ((⟨P,F,N⟩:Tbl).lvRnd (F.length-(i+1)) (i+1) ((r.drop s.1).foldl (lvS i) s.2))=res) (fun s=>r.length-s.1) ?_ (0,l2) ⟨zAf _,i2,i3⟩) rfl rfl
     rintro⟨j,l3⟩ ⟨j1,j2,j3⟩ ihj
     simp only at j1 j2 j3 ihj ⊢
     by_cases hj:j<r.length
     · obtain⟨n,hn1⟩:∃ n,r[j]? =some n:=⟨_,zA0 hj⟩
       have hnr:=hr3 n (zA2 hn1)
       obtain⟨bi,hbi⟩:∃ b,l3[i]? =some b:=⟨_,zA0 (by omega)⟩
       obtain⟨bn,hbn⟩:∃ b,l3[n.toNat]? =some b:=⟨_,zA0 (by omega)⟩
       have hbi2:l3[((i:Nat):Int).toNat]? =some bi:=by rw[zA9];exact hbi
       rw[drop_cons hn1,List.foldl_cons,lvS,List.getD,List.getD,hbi,hbn,Option.getD_some,Option.getD_some] at j3
       have ih':=ihj (j+1,l3.set i (bi||bn)) ⟨by simp only;omega,by simp only[List.length_set];exact j2,j3⟩ (by simp only;omega)
       have hse:l3.set ((i:Nat):Int).toNat (bi||bn)=l3.set i (bi||bn):=by rw[zA9]
       clear ihj ihi ih
       cases bi
       all_goals repeat' (first|(apply z1c;(first|refine z04 (z0x (u:=z7a false) hbi2) rfl rfl ?_| refine z04 (z0x (u:=z7a true) hbi2) rfl rfl ?_| refine z04 (z0x (u:=z7a bn) hbn) rfl rfl ?_))|(apply z01;(first|refine z04 (z0k (ys:=r.map fun x=>[z0u x]) rfl (idx (g:=fun x=>[z0u x]) hn1)) rfl rfl ?_| refine z04 (z10 rfl (by simp only[zA4];omega)) rfl rfl ?_))|(apply z0n;(first|refine z23 (true||bn) hbi2 hse ?_| refine z23 (false||bn) hbi2 hse ?_))|refine stq ?_|refine fk (fun _=>?_) (fun _=>?_))
       all_goals try (exfalso;first|omega|(simp only[zA4] at *;omega))
       all_goals exact z00 ih' rfl rfl
     · obtain rfl:j=r.length:=by omega
       rw[zAs,List.foldl_nil] at j3
       have ih':=ihi (i+1,l3) ⟨by simp only;omega,j2,j3⟩ (by simp only;omega)
       clear ihj ihi ih
       all_goals exact zD28
   · obtain rfl:i=F.length:=by omega
     rw[Nat.sub_self,Tbl.lvRnd] at i3
     have ih':=ih (q+1,l2) ⟨by simp only;omega,i2,i3⟩ (by simp only;omega)
     clear ihi ih
     all_goals exact zD28
 · obtain rfl:q=F.length:=by omega
   rw[Nat.sub_self,Tbl.lvT] at q3
   rw[← q3]
   clear ih
   refine z0o 1000 rfl ?_
   repeat' (first|refine stq ?_|refine fk (fun _=>?_) (fun _=>?_))
   all_goals try (exfalso;omega)
   all_goals exact z05 Tryz.func91 _ z0e ⟨rfl,rfl⟩
end Go.Proofs.YthdfkabdoidjfaaGreatDoor
