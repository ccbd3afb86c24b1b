/- A part of the proof: R1 to R7. -/
import Derived.Test.YthdfkabdoidjfaaGreatDoorM10
import Derived.Test.YthdfkabdoidjfaaGreatDoorQ1
import Derived.Test.YthdfkabdoidjfaaGreatDoorQy
import Derived.Test.YthdfkabdoidjfaaGreatDoorQb
import Derived.Test.YthdfkabdoidjfaaGreatDoorQc
import Derived.Test.YthdfkabdoidjfaaGreatDoorQ4
import Derived.Test.YthdfkabdoidjfaaGreatDoorQ3
set_option linter.all false
namespace Go.Proofs.YthdfkabdoidjfaaGreatDoor
open Go.Ab Go.Ax Go.Rx
set_option maxHeartbeats 20000000
set_option maxRecDepth 100000
attribute [local irreducible] Run Ops Op1 z2i Val Tr z0z z27 NF Rel z3r z3s
theorem zgw (l:List Int) (c:Int) (hl:l.length≤1000000):z0z Tryz.prog 114 [.d (z5g l),I .i32 c] (.d (z5g (ptI l c))):=by
 refine z1l fun H=>?_
 refine z0m Tryz.func114 (by kernel_rfl) rfl (by simp) ?_
 dsimp only[Tryz.f114]
 obtain⟨k0,hk0⟩:∃ k,zfo l c l.length=k:=⟨_,rfl⟩
 rw[ptI,hk0]
 repeat' (first|(apply z07;(first|refine z0p ?_| (apply z14;(refine z02 (z1j rfl) rfl rfl ?_))))|(apply z08;(first|refine z0o ?_|apply z09))|(apply z05;(first|apply z06|apply z00|apply z01)))
 all_goals try (exfalso;omega)
 refine z16 ?_
 refine z0c (z1u (fun q:Nat=>⟨48,[(0,.d (z5g l)),(1,I .i32 c),(5,I .i64 (q:Nat))],[],H⟩) (fun q=>q≤l.length∧zfo l c q=k0) (fun q=>q) ?_ l.length ⟨zAj _,hk0⟩) rfl rfl
 rintro q ⟨i1,i2⟩ ih
 have hq0:((q:Nat):Int).toNat=q:=by omega
 by_cases h0:q=0
 · have hyi:l[(((q:Nat):Int)-1).toNat]? =l[(((q:Nat):Int)-1).toNat]?:=rfl
   rw[h0,zfo] at i2
   obtain rfl:k0=q:=by omega
   clear ih
   by_cases hb:1114111<c
   · rw[zAz (.inl hb)]
     repeat' (first|(apply z07;(first|refine z0p ?_| (apply z0n;(refine z02 (z1g z0y) rfl rfl ?_))))|(apply z08;(first|refine z0o ?_|apply z09|refine z1w ?_| refine zdr rfl rfl (by decide) ?_|refine z2m (fun _=>?_) (fun _=>?_)))|(apply z05;(first|apply z06|apply z00|refine z1d ?_| refine z0w ?_| apply z04|apply z23|refine z0h ?_))|(apply z25;(first|(apply z0t;refine z1b mix ?_)|refine z29 ?_| (apply z7g;(first|refine z0g (z8d (q:=l) (g:=fun x=>[z1v x]) rfl (by omega) (by omega) (fun _=>rfl)) rfl rfl ?_| refine z0g (za1 (q:=l) (g:=fun x=>[z1v x]) rfl (by omega) (by omega) (fun _=>rfl)) rfl rfl ?_))|(apply z4l;(first|refine zhr (r:=l.take k0) (g:=fun x=>[z1v x]) (by first|exact rfl|exact⟨_,rfl,rfl,rfl⟩) rfl rfl rfl (fun _=>rfl) rfl rfl (by decide) (by rw[zAm];omega) ?_|refine z6f (g:=fun x=>[z1v x]) (by first|exact rfl|exact⟨_,rfl,rfl,rfl⟩) rfl rfl c rfl rfl rfl rfl rfl rfl rfl (by decide) (by rw[zAm];omega) ?_|refine zdi (r:=l.drop k0) (g:=fun x=>[z1v x]) (by first|exact rfl|exact⟨_,rfl,rfl,rfl⟩) rfl rfl rfl rfl rfl (fun _=>rfl) rfl rfl (by decide) (by rw[zAa,zAm,List.length_drop,zAn];omega) ?_))|(apply z5x;(refine z9i rfl ?_)))))
     all_goals try (exfalso;omega)
     all_goals exact z0q Tryz.func114 _ z1e ⟨rfl,rfl⟩
   · rw[zAy (by omega)]
     repeat' (first|(apply z07;(first|refine z0p ?_| (apply z0n;(refine z02 (z1g z0y) rfl rfl ?_))))|(apply z08;(first|refine z0o ?_|apply z09|refine z1w ?_| refine zdr rfl rfl (by decide) ?_|refine z2m (fun _=>?_) (fun _=>?_)))|(apply z05;(first|apply z06|apply z00|refine z1d ?_| refine z0w ?_| apply z04|apply z23|refine z0h ?_))|(apply z25;(first|(apply z0t;refine z1b mix ?_)|refine z29 ?_| (apply z7g;(first|refine z0g (z8d (q:=l) (g:=fun x=>[z1v x]) rfl (by omega) (by omega) (fun _=>rfl)) rfl rfl ?_| refine z0g (za1 (q:=l) (g:=fun x=>[z1v x]) rfl (by omega) (by omega) (fun _=>rfl)) rfl rfl ?_))|(apply z4l;(first|refine zhr (r:=l.take k0) (g:=fun x=>[z1v x]) (by first|exact rfl|exact⟨_,rfl,rfl,rfl⟩) rfl rfl rfl (fun _=>rfl) rfl rfl (by decide) (by rw[zAm];omega) ?_|refine z6f (g:=fun x=>[z1v x]) (by first|exact rfl|exact⟨_,rfl,rfl,rfl⟩) rfl rfl c rfl rfl rfl rfl rfl rfl rfl (by decide) (by rw[zAm];omega) ?_|refine zdi (r:=l.drop k0) (g:=fun x=>[z1v x]) (by first|exact rfl|exact⟨_,rfl,rfl,rfl⟩) rfl rfl rfl rfl rfl (fun _=>rfl) rfl rfl (by decide) (by rw[zAa,zAm,List.length_drop,zAn];omega) ?_))|(apply z5x;(refine z9i rfl ?_)))))
     all_goals exact zD112
 · obtain⟨p,rfl⟩:∃ p,q=p+1:=⟨q-1,by omega⟩
   obtain⟨y,hy⟩:∃ y,l[p]? =some y:=⟨_,zA0 (by omega)⟩
   have hyi:l[(((p+1:Nat):Int)-1).toNat]? =some y:=by rw[show (((p+1:Nat):Int)-1).toNat=p by omega];exact hy
   rw[zfo,z2s hy] at i2
   by_cases hc:c<y
   · rw[zAz hc] at i2
     have ih':=ih p ⟨by omega,i2⟩ (by omega)
     clear ih
     repeat' (first|(apply z07;(first|refine z0p ?_| (apply z0a;(refine z02 z22 rfl rfl ?_))|(apply z0i;(refine z02 (z0v (ys:=l.map fun x=>[z1v x]) rfl (z5o (g:=fun x=>[z1v x]) hyi)) rfl rfl ?_))|(apply z0n;(refine z02 (z1g z0y) rfl rfl ?_))))|(apply z08;(first|refine z0o ?_|apply z09|refine z1w ?_| refine zdr rfl rfl (by decide) ?_|refine z2m (fun _=>?_) (fun _=>?_)))|(apply z05;(first|apply z06|apply z00|refine z1d ?_| refine z0w ?_| apply z04|apply z01|apply z23|apply z03|refine z0f (fun _=>?_) (fun _=>?_)| refine z0h ?_))|(apply z25;(refine z29 ?_)))
     all_goals try (exfalso;omega)
     all_goals rw[show ((p+1:Nat):Int)-1=(p:Nat) by omega]
     all_goals exact z0c ih' rfl rfl
   · rw[zAy hc] at i2
     obtain rfl:k0=p+1:=by omega
     clear ih
     rw[show p+1-1=p by omega,z2s hy]
     by_cases hb:1114111<c∨y=c
     · rw[zAz (by omega)]
       repeat' (first|(apply z07;(first|refine z0p ?_| (apply z0a;(refine z02 z22 rfl rfl ?_))|(apply z0i;(refine z02 (z0v (ys:=l.map fun x=>[z1v x]) rfl (z5o (g:=fun x=>[z1v x]) hyi)) rfl rfl ?_))|(apply z0n;(refine z02 (z1g z0y) rfl rfl ?_))))|(apply z08;(first|refine z0o ?_|apply z09|refine z1w ?_| refine zdr rfl rfl (by decide) ?_|refine z2m (fun _=>?_) (fun _=>?_)))|(apply z05;(first|apply z06|apply z00|refine z1d ?_| refine z0w ?_| apply z04|apply z01|apply z23|apply z03|refine z0f (fun _=>?_) (fun _=>?_)| refine z0h ?_))|(apply z25;(first|(apply z0t;refine z1b mix ?_)|refine z29 ?_| (apply z7g;(first|refine z0g (z8d (q:=l) (g:=fun x=>[z1v x]) rfl (by omega) (by omega) (fun _=>rfl)) rfl rfl ?_| refine z0g (za1 (q:=l) (g:=fun x=>[z1v x]) rfl (by omega) (by omega) (fun _=>rfl)) rfl rfl ?_))|(apply z4l;(first|refine zhr (r:=l.take (p+1)) (g:=fun x=>[z1v x]) (by first|exact rfl|exact⟨_,rfl,rfl,rfl⟩) rfl rfl rfl (fun _=>rfl) rfl rfl (by decide) (by rw[zAm];omega) ?_|refine z6f (g:=fun x=>[z1v x]) (by first|exact rfl|exact⟨_,rfl,rfl,rfl⟩) rfl rfl c rfl rfl rfl rfl rfl rfl rfl (by decide) (by rw[zAm];omega) ?_|refine zdi (r:=l.drop (p+1)) (g:=fun x=>[z1v x]) (by first|exact rfl|exact⟨_,rfl,rfl,rfl⟩) rfl rfl rfl rfl rfl (fun _=>rfl) rfl rfl (by decide) (by rw[zAa,zAm,List.length_drop,zAn];omega) ?_))|(apply z5x;(refine z9i rfl ?_)))))
       all_goals try (exfalso;omega)
       all_goals exact z0q Tryz.func114 _ z1e ⟨rfl,rfl⟩
     · rw[zAy (by omega)]
       repeat' (first|(apply z07;(first|refine z0p ?_| (apply z0a;(refine z02 z22 rfl rfl ?_))|(apply z0i;(refine z02 (z0v (ys:=l.map fun x=>[z1v x]) rfl (z5o (g:=fun x=>[z1v x]) hyi)) rfl rfl ?_))|(apply z0n;(refine z02 (z1g z0y) rfl rfl ?_))))|(apply z08;(first|refine z0o ?_|apply z09|refine z1w ?_| refine zdr rfl rfl (by decide) ?_|refine z2m (fun _=>?_) (fun _=>?_)))|(apply z05;(first|apply z06|apply z00|refine z1d ?_| refine z0w ?_| apply z04|apply z01|apply z23|apply z03|refine z0f (fun _=>?_) (fun _=>?_)| refine z0h ?_))|(apply z25;(first|(apply z0t;refine z1b mix ?_)|refine z29 ?_| (apply z7g;(first|refine z0g (z8d (q:=l) (g:=fun x=>[z1v x]) rfl (by omega) (by omega) (fun _=>rfl)) rfl rfl ?_| refine z0g (za1 (q:=l) (g:=fun x=>[z1v x]) rfl (by omega) (by omega) (fun _=>rfl)) rfl rfl ?_))|(apply z4l;(first|refine zhr (r:=l.take (p+1)) (g:=fun x=>[z1v x]) (by first|exact rfl|exact⟨_,rfl,rfl,rfl⟩) rfl rfl rfl (fun _=>rfl) rfl rfl (by decide) (by rw[zAm];omega) ?_|refine z6f (g:=fun x=>[z1v x]) (by first|exact rfl|exact⟨_,rfl,rfl,rfl⟩) rfl rfl c rfl rfl rfl rfl rfl rfl rfl (by decide) (by rw[zAm];omega) ?_|refine zdi (r:=l.drop (p+1)) (g:=fun x=>[z1v x]) (by first|exact rfl|exact⟨_,rfl,rfl,rfl⟩) rfl rfl rfl rfl rfl (fun _=>rfl) rfl rfl (by decide) (by rw[zAa,zAm,List.length_drop,zAn];omega) ?_))|(apply z5x;(refine z9i rfl ?_)))))
       all_goals exact zD112
abbrev rgl (r:List Rg):List D:=[rgs r]
def zbw (L:List Au):List (List Rg):=L.flatMap fun a=>a.A.map z4e
theorem zsa (L:List Au) (hL:L.length≤1000) (hA:∀ a∈L,a.A.length≤1000000∧∀ l∈a.A,l.length≤2000000):z0z Tryz.prog 87 [.d (.slice (L.map auc))] (.d (lvs (zbw L))):=by
 refine z1l fun H=>?_
 refine z0m Tryz.func87 (by kernel_rfl) rfl (by simp) ?_
 dsimp only[Tryz.f87]
 repeat' (first|(apply z07;(first|refine z0p ?_| (apply z14;(refine z02 (z1j rfl) rfl rfl ?_))))|(apply z08;(first|refine z0o ?_|apply z09))|(apply z05;(first|apply z06|apply z00|apply z01)))
 all_goals try (exfalso;omega)
 refine z2r 3 1000 41 1 rfl rfl rfl ?_
 refine z16 ?_
 refine z0c (z1u (fun q:Nat × List (List Rg)=>⟨46,[(3,.ref (0,1000)),(11,.d (.slice (L.map auc))),(12,I .i64 L.length),(13,I .i64 (q.1:Nat))],[(1000,.row 41 1 (q.2.map rgl))],H⟩) (fun q=>q.1≤L.length∧q.2.length≤q.1*1000000∧q.2++zbw (L.drop q.1)=zbw L) (fun q=>L.length-q.1) ?_ (0,[]) ⟨zAf _,by simp,by simp⟩) rfl rfl
 rintro⟨i,acc⟩ ⟨i1,i3,i2⟩ ih
 simp only at i1 i2 i3 ih ⊢
 by_cases hlt:i<L.length
 · obtain⟨a,ha⟩:∃ a,L[i]? =some a:=⟨_,zA0 hlt⟩
   obtain⟨a1,a2⟩:=hA a (zA2 ha)
   rw[drop_cons ha,zbw,List.flatMap_cons,← zbw] at i2
   obtain⟨F,A⟩:=a
   simp only at a1 a2 i2
   repeat' (first|(apply z07;(first|refine z0p ?_| (apply z0a;(first|refine z02 z1m rfl rfl ?_| refine z02 z2o rfl rfl ?_))|(apply z0e;(refine z02 z0s rfl rfl ?_))|(apply z0i;(refine z02 (z0v (ys:=L.map auc) rfl (idx (g:=auc) ha)) rfl rfl ?_))|(apply z14;(refine z02 (z1j rfl) rfl rfl ?_))|(apply z0d;(refine z2g ?_))|(apply z0k;(refine z0b z2q ?_))))|(apply z08;(first|refine z0o ?_|apply z09))|(apply z05;(first|apply z06|apply z00|apply z04|apply z01|refine z0f (fun _=>?_) (fun _=>?_)| refine z0h ?_)))
   all_goals try (exfalso;omega)
   refine z16 ?_
   refine z0c (z1u (fun q:Nat × List (List Rg)=>⟨46,[(3,.ref (0,1000)),(11,.d (.slice (L.map auc))),(12,I .i64 L.length),(13,I .i64 (i:Nat)),(18,.d (.slice (A.map z4n))),(19,I .i64 A.length),(20,I .i64 (q.1:Nat))],[(1000,.row 41 1 (q.2.map rgl))],H⟩) (fun q=>q.1≤A.length∧q.2.length≤i*1000000+q.1∧q.2++((A.drop q.1).map z4e++zbw (L.drop (i+1)))=zbw L) (fun q=>A.length-q.1) ?_ (0,acc) ⟨zAf _,Nat.le_trans i3 (Nat.le_add_right _ _),i2⟩) rfl rfl
   rintro⟨j,acc2⟩ ⟨j1,j3,j2⟩ ihj
   simp only at j1 j2 j3 ihj ⊢
   by_cases hj:j<A.length
   · obtain⟨l,hl⟩:∃ l,A[j]? =some l:=⟨_,zA0 hj⟩
     have hll:=a2 l (zA2 hl)
     rw[drop_cons hl,List.map_cons,List.cons_append] at j2
     have ihj':=ihj (j+1,acc2++[z4e l]) ⟨by simp only;omega,by simp only[zAa,zAn];omega,by simp only;rw[← j2];simp⟩ (by simp only;omega)
     clear ihj ih
     repeat' (first|(apply z07;(first|refine z0p ?_| (apply z0a;(refine z02 z22 rfl rfl ?_))|(apply z0i;(refine z02 (z0v (ys:=A.map z4n) rfl (idx (g:=z4n) hl)) rfl rfl ?_))|(apply z0n;(refine z02 (z0r z0y) rfl rfl ?_))|(apply z14;(refine z02 (z1j rfl) rfl rfl ?_))))|(apply z08;(first|refine z0o ?_|apply z09))|(apply z05;(first|apply z06|apply z00|apply z04|apply z01|apply z03|refine z0f (fun _=>?_) (fun _=>?_)| refine z0h ?_)))
     all_goals try (exfalso;omega)
     refine z2r 8 1001 155 2 rfl rfl rfl ?_
     refine z16 ?_
     refine z0c (z1u (fun q:Nat=>⟨46,[(3,.ref (0,1000)),(8,.ref (0,1001)),(11,.d (.slice (L.map auc))),(12,I .i64 L.length),(13,I .i64 (i:Nat)),(18,.d (.slice (A.map z4n))),(19,I .i64 A.length),(20,I .i64 (j:Nat)),(24,.d (z9o l)),(25,I .i64 l.length),(26,I .i64 (q:Nat))],[(1000,.row 41 1 (acc2.map rgl)),(1001,.row 155 2 (((z4e l).take q).map rgc))],H⟩) (fun q=>q≤l.length) (fun q=>l.length-q) ?_ 0 (zAf _)) rfl rfl
     rintro k k1 ihk
     by_cases hk:k<l.length
     · obtain⟨x,hx⟩:∃ x,l[k]? =some x:=⟨_,zA0 hk⟩
       have hr:(z4e l)[k]? =some (x.1,x.2.1):=by rw[z4e,zAd,hx];rfl
       have ih':=ihk (k+1) (by omega) (by omega)
       rw[z5s hr] at ih'
       have htl:((z4e l).take k).length≤2000000:=by rw[zAm];omega
       generalize (z4e l).take k=Q at *
       repeat' (first|(apply z07;(first|refine z0p ?_| (apply z0a;(first|refine z02 z1m rfl rfl ?_| refine z02 z2o rfl rfl ?_))|(apply z0e;(refine z02 z0s rfl rfl ?_))|(apply z0i;(refine z02 (z0v (ys:=l.map z2x) rfl (idx hx)) rfl rfl ?_))|(apply z0n;(refine z02 (z0r z0y) rfl rfl ?_))|(apply z14;(refine z30 (g:=rgc) (x.1,x.2.1) rfl ?_))|(apply z0d;(refine z2g ?_))|(apply z0k;(refine z0b z2q ?_))|(apply z15;(refine z3u ?_))|(apply z2h;(refine z2n rfl ?_))))|(apply z08;(first|refine z0o ?_|apply z09))|(apply z05;(first|apply z06|apply z00|apply z04|apply z01|apply z03|refine z0f (fun _=>?_) (fun _=>?_)| refine z0h ?_)))
       all_goals try (exfalso;omega)
       all_goals refine z2a 37 1001 ?_
       all_goals exact z0c ih' rfl rfl
     · obtain rfl:k=l.length:=by omega
       rw[show l.length=(z4e l).length by rw[z4e,zA4],List.take_length] at *
       clear ihk
       refine z1r 1001 rfl ?_
       repeat' (first|(apply z07;(first|refine z0p ?_| (apply z0n;(refine z02 (z0r z0y) rfl rfl ?_))|(apply z14;(refine z30 (g:=rgl) (z4e l) rfl ?_))|(apply z2h;(refine z2n rfl ?_))))|(apply z08;(first|refine z0o ?_|apply z09))|(apply z05;(first|apply z06|apply z00|apply z04|apply z01|apply z03|refine z0f (fun _=>?_) (fun _=>?_)| refine z0h ?_)))
       all_goals try (exfalso;omega)
       all_goals refine z2a 42 1000 ?_
       all_goals exact z0c ihj' rfl rfl
   · obtain rfl:j=A.length:=by omega
     rw[zAs,List.map_nil,List.nil_append] at j2
     exact zD106
 · obtain rfl:i=L.length:=by omega
   rw[zAs,zbw,List.flatMap_nil,List.append_nil] at i2
   subst i2
   repeat' (first|(apply z07;(refine z0p ?_))|(apply z08;(first|refine z0o ?_|apply z09))|(apply z05;(first|apply z06|apply z00|apply z04|apply z01|refine z0f (fun _=>?_) (fun _=>?_)| refine z0h ?_)))
   all_goals try (exfalso;omega)
   all_goals refine z1r 1000 rfl ?_
   all_goals exact z0q Tryz.func87 _ z1e ⟨rfl,rfl⟩
theorem zzw (L:List (List Rg)) (hr:∀ r∈L,∀ x∈r,0≤x.1∧x.1≤1114111∧0≤x.2∧x.2≤1114111) (hL:L.length≤1000) (hl:∀ r∈L,r.length≤400):z0z Tryz.prog 86 [.d (lvs L)] (.d (z5g (z95 L))):=by
 refine z1l fun H=>?_
 refine z0m Tryz.func86 (by kernel_rfl) rfl (by simp) ?_
 dsimp only[Tryz.f86]
 repeat' (first|(apply z07;(first|refine z0p ?_| (apply z14;(refine z02 (z1j rfl) rfl rfl ?_))|(apply z2h;(refine z2n rfl ?_))))|(apply z08;(first|refine z0o ?_|apply z09))|(apply z05;(first|apply z06|apply z00|apply z01)))
 all_goals try (exfalso;omega)
 refine z16 ?_
 refine z0c (z1u (fun q:Nat × List Int=>⟨32,[(3,.d (z5g q.2)),(9,.d (lvs L)),(10,I .i64 L.length),(11,I .i64 (q.1:Nat))],[],H⟩) (fun q=>q.1≤L.length∧q.2.length≤q.1*800+1∧(L.drop q.1).foldl (fun l r=>r.foldl ptR l) q.2=z95 L) (fun q=>L.length-q.1) ?_ (0,[0]) ⟨zAf _,by simp,by simp[z95]⟩) rfl rfl
 rintro⟨i,acc⟩ ⟨i1,i3,i2⟩ ih
 simp only at i1 i2 i3 ih ⊢
 by_cases hlt:i<L.length
 · obtain⟨r,hri⟩:∃ r,L[i]? =some r:=⟨_,zA0 hlt⟩
   have hrm:=zA2 hri
   have hrr:=hr r hrm
   have hrl:=hl r hrm
   rw[drop_cons hri,List.foldl_cons] at i2
   repeat' (first|(apply z07;(first|refine z0p ?_| (apply z0a;(refine z02 z22 rfl rfl ?_))|(apply z0i;(refine z02 (z0v (ys:=L.map rgl) rfl (idx (g:=rgl) hri)) rfl rfl ?_))|(apply z14;(refine z02 (z1j rfl) rfl rfl ?_))))|(apply z08;(first|refine z0o ?_|apply z09))|(apply z05;(first|apply z06|apply z00|apply z04|apply z01|refine z0f (fun _=>?_) (fun _=>?_)| refine z0h ?_)))
   all_goals try (exfalso;omega)
   refine z16 ?_
   refine z0c (z1u (fun q:Nat × List Int=>⟨32,[(3,.d (z5g q.2)),(9,.d (lvs L)),(10,I .i64 L.length),(11,I .i64 (i:Nat)),(15,.d (rgs r)),(16,I .i64 r.length),(17,I .i64 (q.1:Nat))],[],H⟩) (fun q=>q.1≤r.length∧q.2.length≤i*800+1+2*q.1∧(L.drop (i+1)).foldl (fun l r=>r.foldl ptR l) ((r.drop q.1).foldl ptR q.2)=z95 L) (fun q=>r.length-q.1) ?_ (0,acc) ⟨zAf _,Nat.le_trans i3 (Nat.le_add_right _ _),i2⟩) rfl rfl
   rintro⟨j,acc2⟩ ⟨j1,j3,j2⟩ ihj
   simp only at j1 j2 j3 ihj ⊢
   by_cases hj:j<r.length
   · obtain⟨x,hx⟩:∃ x,r[j]? =some x:=⟨_,zA0 hj⟩
     obtain⟨x1,x2,x3,x4⟩:=hrr x (zA2 hx)
     rw[drop_cons hx,List.foldl_cons] at j2
     have hle:=zrr acc2 x
     have hle1:=zj6 acc2 x.1
     have ihj':=ihj (j+1,ptR acc2 x) ⟨by simp only;omega,by simp only;omega,j2⟩ (by simp only;omega)
     have h1:=zgw acc2 x.1 (by omega)
     have h2:=zgw (ptI acc2 x.1) (x.2+1) (by omega)
     rw[ptR] at ihj'
     generalize ptI acc2 x.1=L1 at *
     generalize ptI L1 (x.2+1)=L2 at *
     clear ihj ih
     repeat' (first|(apply z07;(first|refine z0p ?_| (apply z0a;(refine z02 z2o rfl rfl ?_))|(apply z0i;(refine z02 (z0v (ys:=r.map rgc) rfl (idx (g:=rgc) hx)) rfl rfl ?_))|(apply z0n;(refine z02 (z0r z0y) rfl rfl ?_))|(apply z0d;(refine z2g ?_))|(apply z0k;(refine z0b z2q ?_))))|(apply z08;(first|refine z0o ?_|apply z09))|(apply z05;(first|apply z06|apply z00|apply z04|apply z01|apply z23|apply z03|refine z0f (fun _=>?_) (fun _=>?_)| refine z0h ?_))|(apply z25;(first|(apply z0t;refine z1b mix ?_)|refine z29 ?_| (apply z0j;(refine z0g z1m rfl rfl ?_))|(apply z13;(refine z0g z0s rfl rfl ?_))|(apply z1q;(refine z0g (z0r (z9j (by omega) (by omega))) rfl rfl ?_))|(apply z1k;(first|refine z4d h1 ?_| refine z4d h2 ?_)))))
     all_goals try (exfalso;omega)
     all_goals exact z0c ihj' rfl rfl
   · obtain rfl:j=r.length:=by omega
     rw[zAs,List.foldl_nil] at j2
     exact zD106
 · obtain rfl:i=L.length:=by omega
   rw[zAs,List.foldl_nil] at i2
   rw[← i2]
   repeat' (first|(apply z07;(refine z0p ?_))|(apply z08;(first|refine z0o ?_|apply z09))|(apply z05;(first|apply z06|apply z00|apply z04|apply z01|refine z0f (fun _=>?_) (fun _=>?_)| refine z0h ?_)))
   all_goals try (exfalso;omega)
   all_goals exact z0q Tryz.func86 _ z1e ⟨rfl,rfl⟩
theorem zlx (m:List Arc) (y:Arc) (f t q:Int) (hl:m.length≤1000000) (hf:0≤f∧f≤1114111) (h1:y.2.1+1=f) (h2:y.2.2=q) :
 z27 Tryz.prog 92 [.ref (0,1000),I .i32 f,I .i32 t,I .i64 q] [((0,1000),.row 38 3 ((m++[y]).map z2x))] [((0,1000),.row 38 3 ((m++[(y.1,t,y.2.2)]).map z2x))] (.ref (0,1000)):=by
 refine z2f fun H hH=>?_
 have hX:=hH ((0,1000),.row 38 3 ((m++[y]).map z2x)) (by simp)
 have hal2:(m++[y]).length=m.length+1:=by simp
 have hal:((m++[y]).map z2x).length=m.length+1:=by simp
 have hix:(m++[y])[(((((m++[y]).length:Nat):Int)-1)).toNat]? =some y:=by
  exact zD89
 have hse:(m++[y]).set (((((m++[y]).length:Nat):Int)-1)).toNat ((y.1,t,y.2.2):Arc)=m++[(y.1,t,y.2.2)]:=by
  exact zD89
 refine z0m Tryz.func92 (by kernel_rfl) rfl (by simp) ?_
 dsimp only[Tryz.f92]
 refine z2v 1000 0 1000 hX rfl rfl ?_
 repeat' (first|(apply z07;(first|refine z0p ?_| (apply z0a;(first|refine z02 (z11 (u:=z1v y.2.1) hix) rfl rfl ?_| refine z02 (z11 (u:=z1x y.2.2) hix) rfl rfl ?_))|(apply z0e;(refine z02 z4b rfl rfl ?_))|(apply z0i;(refine z02 (z3q rfl) rfl rfl ?_))|(apply z0n;(first|refine z02 (z1g (z9j (by omega) (by omega))) rfl rfl ?_| refine z02 (z1g z0y) rfl rfl ?_))|(apply z14;(first|refine z02 (z1h rfl) rfl rfl ?_| refine z30 (g:=z2x) (f,t,q) rfl ?_))|(apply z0d;(refine z4g ((y.1,t,y.2.2):Arc) hix hse ?_))|(apply z15;(refine z3u ?_))|(apply z2h;(refine z2n rfl ?_))))|(apply z08;(first|refine z0o ?_|apply z09|refine z1w ?_| refine z2m (fun _=>?_) (fun _=>?_)))|(apply z05;(first|apply z06|apply z00|refine z0w ?_| apply z04|refine z0f (fun _=>?_) (fun _=>?_))))
 all_goals try (exfalso;omega)
 all_goals refine z4k (raw:=.row 38 3 ((m++[(y.1,t,y.2.2)]).map z2x)) 1000 0 1000 ?_
 all_goals refine zus 101000 8 rfl rfl ?_
 all_goals refine z0q Tryz.func92 _ (zxo (.ref (0,1000)) rfl rfl) ⟨rfl,?_⟩
 all_goals simp[z6o,z36]
theorem zco (l:List Arc) (f t q:Int) (hl:l.length≤1000000) (hf:0≤f∧f≤1114111) (hn:∀ y,z7z none l=some y→¬ (y.2.1+1=f∧y.2.2=q)) (H:Hf) (hX:H 0 1000=some (.row 38 3 (l.map z2x))) :
 Ab.Spec Tryz.prog 92 [.ref (0,1000),I .i32 f,I .i32 t,I .i64 q] H (fun r H'=>r=.new (.row 38 3 ((l++[(f,t,q)]).map z2x))∧H'=upd H (0,1000) .gone):=by
 rcases zgm l with rfl|⟨m,y,rfl⟩
 · refine z0m Tryz.func92 (by kernel_rfl) rfl (by simp) ?_
   dsimp only[Tryz.f92]
   refine z2v 1000 0 1000 hX rfl rfl ?_
   repeat' (first|(apply z07;(first|refine z0p ?_| (apply z0n;(refine z02 (z1g z0y) rfl rfl ?_))|(apply z14;(first|refine z02 (z1h rfl) rfl rfl ?_| refine z5i (g:=z2x) rfl rfl (f,t,q) rfl rfl rfl rfl rfl rfl rfl (by decide) (by decide) ?_))|(apply z15;(refine z3u ?_))|(apply z2h;(refine z2n rfl ?_))))|(apply z08;(first|refine z0o ?_|apply z09|refine z1w ?_))|(apply z05;(first|apply z06|apply z00|refine z0w ?_| apply z04)))
   all_goals try (exfalso;first|omega|(simp at *;done))
   all_goals refine z0q Tryz.func92 _ (zoi rfl rfl rfl) ⟨rfl,rfl⟩
 · have hy:=hn y (z2z m none y)
   have hal2:(m++[y]).length=m.length+1:=by simp
   have hal:((m++[y]).map z2x).length=m.length+1:=by simp
   have hix:(m++[y])[(((((m++[y]).length:Nat):Int)-1)).toNat]? =some y:=by
    exact zD89
   have hse:(m++[y]).set (((((m++[y]).length:Nat):Int)-1)).toNat ((y.1,t,y.2.2):Arc)=m++[(y.1,t,y.2.2)]:=by
    exact zD89
   refine z0m Tryz.func92 (by kernel_rfl) rfl (by simp) ?_
   dsimp only[Tryz.f92]
   refine z2v 1000 0 1000 hX rfl rfl ?_
   repeat' (first|(apply z07;(first|refine z0p ?_| (apply z0a;(first|refine z02 (z11 (u:=z1v y.2.1) hix) rfl rfl ?_| refine z02 (z11 (u:=z1x y.2.2) hix) rfl rfl ?_))|(apply z0e;(refine z02 z4b rfl rfl ?_))|(apply z0i;(refine z02 (z3q rfl) rfl rfl ?_))|(apply z0n;(first|refine z02 (z1g (z9j (by omega) (by omega))) rfl rfl ?_| refine z02 (z1g z0y) rfl rfl ?_))|(apply z14;(first|refine z02 (z1h rfl) rfl rfl ?_| refine z30 (g:=z2x) (f,t,q) rfl ?_))|(apply z0d;(refine z4g ((y.1,t,y.2.2):Arc) hix hse ?_))|(apply z15;(refine z3u ?_))|(apply z2h;(refine z2n rfl ?_))))|(apply z08;(first|refine z0o ?_|apply z09|refine z1w ?_| refine z2m (fun _=>?_) (fun _=>?_)))|(apply z05;(first|apply z06|apply z00|refine z0w ?_| apply z04|refine z0f (fun _=>?_) (fun _=>?_))))
   all_goals try (exfalso;omega)
   all_goals refine z0q Tryz.func92 _ (zoi rfl rfl rfl) ⟨rfl,rfl⟩
theorem zop {x y:Operand} (a b:Int × Int) (w:World) (own:Nat→Prop) (us vs:List Value) (hu:DR w own (.agg (pcc a)) (.agg us.toArray)) (hv:DR w own (.agg (pcc b)) (.agg vs.toArray)) :
 (do eqGuard .neq 129 x y (.agg us.toArray) (.agg vs.toArray);binOp .neq 129 (.agg us.toArray) (.agg vs.toArray):Sem Value).run Tryz.prog w=.ok (.bool (!decide (a=b))) w:=by
 obtain⟨a0,a1⟩:=a
 obtain⟨b0,b1⟩:=b
 have e1:=DR.lits (xs:=[.int .i64 a0,.int .i64 a1]) hu
 have e2:=DR.lits (xs:=[.int .i64 b0,.int .i64 b1]) hv
 subst e1 e2
 have hu:Tryz.prog.underlying 129=some (.array 2 3):=T129.array rfl
 have hg:Tryz.prog.eqGuardType Tryz.prog.depth 129=false:=by kernel_rfl
 have hint:Tryz.prog.underlying 3=some (.int .i64):=T3.int rfl
 have ha5:∀ w,(isAgg 3).run Tryz.prog w=.ok false w:=fun w=>T3.isAgg w
 have hc:Tryz.prog.cellsOf 3=1:=by kernel_rfl
 obtain⟨i,_,_,hi,_⟩:=T3.get
 rw[Sem.run_bind,run_eqGuard_agg _ _ _ _ _ _ _ hg,Result.andThen_ok,run_neq_struct,run_equalIn_array w 9999 _ _ hu hi,hc,show List.range 2=[0,1] from rfl]
 by_cases h0:a0=b0 <;> by_cases h1:a1=b1 <;>
  simp[Op.eqItems,part,ha5,run_equalIn_int _ _ _ _ _ _ _ hint,h0,h1]
theorem y3g (a:Au) (hA:a.A.length=a.F.length) (hl:∀ l∈a.A,l.length≤4611686018427387904) (q:Int) (h1:q<a.F.length) (c:Int):z0z Tryz.prog 43 [.d (auD a),I .i64 q,I .i32 c] (I .i64 (a.nx q c)):=by
 by_cases hq:q<0
 · rw[a.nx_neg hq];exact zpq a q hq c
 · obtain⟨k,rfl⟩:∃ k:Nat,q=k:=⟨q.toNat,by omega⟩
   exact zyu a k (by omega) hl c
abbrev z73 (r:List Int):List D:=[ints r]
abbrev y6d (t:Tbl):List D:=[z5g t.P,z7s t.F,.slice (t.N.map z73)]
abbrev zw0 (t:Tbl):D:=.agg (y6d t)
theorem y25:z0z Tryz.prog 47 [] (.d (auD zc6)):=by
 refine z1l fun H=>?_
 refine z0m Tryz.func47 (by kernel_rfl) rfl (by simp) ?_
 dsimp only[Tryz.f47]
 repeat' (first|(apply z07;(first|(apply z0d;(refine z2g ?_))|(apply z0k;(refine z0b z2q ?_))|(apply z15;(refine z3u ?_))|(apply z2h;(refine z2n rfl ?_))))|(apply z08;(first|refine z0o ?_|apply z09))|(apply z05;(first|apply z06|apply z00)))
 all_goals try (exfalso;omega)
 all_goals exact z0q Tryz.func47 _ (z4c rfl rfl rfl rfl rfl rfl) ⟨rfl,rfl⟩
theorem zpr {n:Int × Int} {L:List (Int × Int)} {k:Nat} {p:Int × Int} (hp:L[k]? =some p):z3y n (L.drop k)=if p=n then 0 else z3y n (L.drop (k+1))+1:=by
 rw[drop_cons hp,z3y]
theorem y06 (a b:Au) (op:Int) (ha:AuW a) (hb:AuW b) (hna:a.A.length≤400) (hnb:b.A.length≤400) (hla:∀ l∈a.A,l.length≤400) (hlb:∀ l∈b.A,l.length≤400) (hP:(z95 (zbw [a,b])).length≤1000) (m:Nat) (hm:m≤1000000) (t:Tbl)
 (ht:prL a b (fun p q=>zt3 p q op) (z95 (zbw [a,b])) m 0 [(0,0)] [] []=some t):z0z Tryz.prog 46 [.d (auD a),.d (auD b),I .i64 op] (.d (zw0 t)):=by
 refine z1l fun H=>?_
 have hrr:∀ r∈zbw [a,b],r.length≤400∧∀ x∈r,0≤x.1∧x.1≤1114111∧0≤x.2∧x.2≤1114111:=fun r hr=>by
  rw[zbw,List.mem_flatMap] at hr
  obtain⟨c,hc,hr⟩:=hr
  obtain⟨l,hl,rfl⟩:=List.mem_map.1 hr
  have:l.length≤400∧∀ x∈l,0≤x.1∧x.1≤x.2.1∧x.2.1≤1114111:=by
   simp only[zAc,List.not_mem_nil,or_false] at hc
   rcases hc with rfl|rfl
   · exact⟨hla l hl,fun x hx=>by have:=(ha.arc l hl).2 x hx;omega⟩
   · exact⟨hlb l hl,fun x hx=>by have:=(hb.arc l hl).2 x hx;omega⟩
  refine⟨by rw[z4e,zA4];exact this.1,fun x hx=>?_⟩
  obtain⟨y,hy,rfl⟩:=List.mem_map.1 hx
  have:=this.2 y hy
  simp only;omega
 have hrg:=zsa [a,b] (by simp) fun c hc=>by
  simp only[zAc,List.not_mem_nil,or_false] at hc
  rcases hc with rfl|rfl
  · exact⟨by omega,fun l hl=>by have:=hla l hl;omega⟩
  · exact⟨by omega,fun l hl=>by have:=hlb l hl;omega⟩
 have hcu:=zzw (zbw [a,b]) (fun r hr=>(hrr r hr).2) (by simp[zbw];omega) fun r hr=>(hrr r hr).1
 generalize zbw [a,b]=RS at *
 generalize z95 RS=P at *
 have hacc1:=fun q h=>zih a q h
 have hacc2:=fun q h=>zih b q h
 have hnx1:=fun q h c=>y3g a ha.len (fun l hl=>by have:=hla l hl;omega) q h c
 have hnx2:=fun q h c=>y3g b hb.len (fun l hl=>by have:=hlb l hl;omega) q h c
 have hde:=fun p q=>zte op p q
 obtain⟨Fa,Aa⟩:=a
 obtain⟨Fb,Ab'⟩:=b
 refine z0m Tryz.func46 (by kernel_rfl) rfl (by simp) ?_
 dsimp only[Tryz.f46]
 repeat' (first|(apply z07;(first|refine z0p ?_| (apply z0a;(refine z02 z3k rfl rfl ?_))|(apply z0u;(first|refine z1o hrg ?_| refine z1o hcu ?_))|(apply z0d;(refine z2g ?_))|(apply z0k;(refine z0b z2q ?_))|(apply z1y;(refine z0b z2e ?_))|(apply z15;(refine z3u ?_))|(apply z2h;(first|refine zbl (e:=129) rfl rfl rfl rfl rfl rfl rfl rfl rfl (by decide) ?_|refine z2n rfl ?_))|refine zvo rfl rfl rfl rfl rfl rfl rfl (by decide) ?_))|(apply z08;(first|refine z0o ?_|apply z09))|(apply z05;(first|apply z06|apply z00|apply z01)))
 all_goals try (exfalso;omega)
 refine z2a 23 1000 ?_
 refine z3f 7 1 1001 4 1 rfl rfl rfl rfl ?_
 refine z3f 7 2 1002 94 1 rfl rfl rfl rfl ?_
 refine z16 ?_
 refine z0c (z1u (fun q:Nat × List (Int × Int) × List Bool × List (List Int)=>⟨101,[(2,I .i64 op),(3,.ptr (0,3) 0),(4,.ptr (0,4) 0),(6,.ptr (0,6) 0),(7,.ptr (0,7) 0),(8,.ref (0,1000)),(9,I .i64 (q.1:Nat))],[(3,.box [.d (z7s Fa),.d (.slice (Aa.map z4n))]),(4,.box [.d (z7s Fb),.d (.slice (Ab'.map z4n))]),(6,.box [.d (.lit z3g),.d (.lit z3g),.d (.lit z3g)]),(7,.box [.d (z5g P),.ref (0,1001),.ref (0,1002)]),(1000,.row 129 2 (q.2.1.map pcc)),(1001,.row 4 1 (q.2.2.1.map boc)),(1002,.row 94 1 (q.2.2.2.map z73))],H⟩)
  (fun q=>q.1≤m∧q.2.1.length≤1+q.1*1000∧q.2.2.1.length=q.1∧q.2.2.2.length=q.1∧(∀ p∈q.2.1,zn7 ⟨Fa,Aa⟩ ⟨Fb,Ab'⟩ p)∧prL ⟨Fa,Aa⟩ ⟨Fb,Ab'⟩ (fun p q=>zt3 p q op) P (m-q.1) q.1 q.2.1 q.2.2.1 q.2.2.2=some t) (fun q=>m-q.1) ?_ (0,[(0,0)],[],[]) ⟨zAf _,by simp,rfl,rfl,by simp[zn7];exact⟨by have:=ha.pos;simpa using this,by have:=hb.pos;simpa using this⟩,ht⟩) rfl rfl
 rintro⟨i,L,F,N⟩ ⟨i1,i2,i3,i4,i5,i6⟩ ih
 simp only at i1 i2 i3 i4 i5 i6 ih ⊢
 obtain⟨fu,hfu⟩:∃ fu,m-i=fu+1:=by
  cases hh:m-i with
  | zero=>rw[hh,prL] at i6;cases i6
  | succ k=>exact⟨k,rfl⟩
 rw[hfu,prL] at i6
 by_cases hlt:i<L.length
 · obtain⟨p,hp⟩:∃ p,L[i]? =some p:=⟨_,zA0 hlt⟩
   rw[hp] at i6
   simp only at i6
   obtain⟨o1,o2,o3,o4⟩:=i5 p (zA2 hp)
   have ha1:=hacc1 p.1 o2
   have ha2:=hacc2 p.2 o4
   have hd1:=hde ((⟨Fa,Aa⟩:Au).fin p.1) ((⟨Fb,Ab'⟩:Au).fin p.2)
   have hn1:=hnx1 p.1 o2
   have hn2:=hnx2 p.2 o4
   have hnr1:=fun c=>ha.nx p.1 c
   have hnr2:=fun c=>hb.nx p.2 c
   generalize hfb:zt3 ((⟨Fa,Aa⟩:Au).fin p.1) ((⟨Fb,Ab'⟩:Au).fin p.2) op=fb at *
   generalize (⟨Fa,Aa⟩:Au).fin p.1=fa1 at *
   generalize (⟨Fb,Ab'⟩:Au).fin p.2=fb1 at *
   clear hacc1 hacc2 hnx1 hnx2 hde
   repeat' (first|(apply z07;(first|refine z0p ?_| (apply z0a;(first|refine z02 (z62 hp rfl rfl) rfl rfl ?_| refine z02 z1m rfl rfl ?_))|(apply z0e;(refine z02 z0s rfl rfl ?_))|(apply z0i;(refine z02 (z2d rfl (by simp only[zA4];omega)) rfl rfl ?_))|(apply z14;(first|refine z02 (z1j rfl) rfl rfl ?_| refine z02 (z1h rfl) rfl rfl ?_))|(apply z0d;(refine z2g ?_))|(apply z0k;(refine z0b z2q ?_))))|(apply z08;(first|refine z0o ?_|apply z09))|(apply z05;(first|apply z06|apply z00|apply z04|apply z01|apply z23|refine z0f (fun _=>?_) (fun _=>?_)| refine z0h ?_))|(apply z25;(first|(apply z0t;refine z1b mix ?_)|refine z29 ?_| (apply z0j;(first|refine z0g z1m rfl rfl ?_| refine z0g z2j rfl rfl ?_))|(apply z13;(refine z0g z0s rfl rfl ?_))|(apply z0l;(refine z0g (zkm rfl (by decide) (by decide) rfl) rfl rfl ?_))|(apply z4l;(refine z6f (g:=boc) (by first|exact rfl|exact⟨_,rfl,rfl,rfl⟩) rfl rfl fb rfl rfl rfl rfl rfl rfl rfl (by decide) (by omega) ?_))|(apply z1k;(first|refine z4d ha1 ?_| refine z4d ha2 ?_| refine z4d hd1 ?_))|(apply z1s;(refine z8t (by first|exact rfl|exact⟨_,rfl,rfl,rfl⟩) rfl rfl rfl rfl rfl ?_))|(apply z5x;(refine z9i rfl ?_)))))
   all_goals try (exfalso;simp only[zA4] at *;omega)
   refine z2a 47 1001 ?_
   refine z2r 11 1003 3 1 rfl rfl rfl ?_
   refine z16 ?_
   refine z0c (z1u (fun q:Nat × List (Int × Int) × List Int=>⟨101,[(2,I .i64 op),(3,.ptr (0,3) 0),(4,.ptr (0,4) 0),(6,.ptr (0,6) 0),(7,.ptr (0,7) 0),(8,.ref (0,1000)),(9,I .i64 (i:Nat)),(10,.ptr (0,10) 0),(11,.ref (0,1003)),(50,.d (z5g P)),(51,I .i64 P.length),(52,I .i64 (q.1:Nat))],[(3,.box [.d (z7s Fa),.d (.slice (Aa.map z4n))]),(4,.box [.d (z7s Fb),.d (.slice (Ab'.map z4n))]),(6,.box [.d (.lit z3g),.d (.lit z3g),.d (.lit z3g)]),(7,.box [.d (z5g P),.ref (0,1001),.ref (0,1002)]),(10,.box [.d (z1x p.1),.d (z1x p.2)]),(1000,.row 129 2 (q.2.1.map pcc)),(1001,.row 4 1 ((F++[fb]).map boc)),(1002,.row 94 1 (N.map z73)),(1003,.row 3 1 (q.2.2.map icc))],H⟩)
    (fun q=>q.1≤P.length∧q.2.1.length≤1+i*1000+q.1∧q.2.2.length=q.1∧(∀ p∈q.2.1,zn7 ⟨Fa,Aa⟩ ⟨Fb,Ab'⟩ p)∧(P.drop q.1).foldl (zda ⟨Fa,Aa⟩ ⟨Fb,Ab'⟩ p) q.2=P.foldl (zda ⟨Fa,Aa⟩ ⟨Fb,Ab'⟩ p) (L,[])) (fun q=>P.length-q.1) ?_ (0,L,[]) ⟨zAf _,i2,rfl,i5,rfl⟩) rfl rfl
   rintro⟨j,L2,row⟩ ⟨j1,j2,j3,j4,j5⟩ ihj
   simp only at j1 j2 j3 j4 j5 ihj ⊢
   by_cases hjl:j<P.length
   · obtain⟨c,hc⟩:∃ c,P[j]? =some c:=⟨_,zA0 hjl⟩
     rw[drop_cons hc,List.foldl_cons,zda] at j5
     simp only at j5
     have ih':=ihj (j+1,z6b L2 ((⟨Fa,Aa⟩:Au).nx p.1 c,(⟨Fb,Ab'⟩:Au).nx p.2 c),row++[((z3y ((⟨Fa,Aa⟩:Au).nx p.1 c,(⟨Fb,Ab'⟩:Au).nx p.2 c) L2:Nat):Int)]) ⟨by simp only;omega,by simp only;have:=z8u L2 ((⟨Fa,Aa⟩:Au).nx p.1 c,(⟨Fb,Ab'⟩:Au).nx p.2 c);omega,by simp[j3],fun q hq=>by
      rcases z88 hq with rfl|hq
      · have:=hnr1 c;have:=hnr2 c;exact⟨by omega,by omega,by omega,by omega⟩
      · exact j4 q hq,j5⟩ (by simp only;omega)
     have e1:=hn1 c
     have e2:=hn2 c
     have hkk:z3y ((⟨Fa,Aa⟩:Au).nx p.1 c,(⟨Fb,Ab'⟩:Au).nx p.2 c) L2≤L2.length:=zpf _ _
     clear ihj hn1 hn2 hnr1 hnr2
     generalize (⟨Fa,Aa⟩:Au).nx p.1 c=n1 at *
     generalize (⟨Fb,Ab'⟩:Au).nx p.2 c=n2 at *
     repeat' (first|(apply z07;(first|refine z0p ?_| (apply z0a;(first|refine z02 z1m rfl rfl ?_| refine z02 z22 rfl rfl ?_))|(apply z0e;(refine z02 z0s rfl rfl ?_))|(apply z0i;(refine z02 (z0v (ys:=P.map fun x=>[z1v x]) rfl (idx (g:=fun x=>[z1v x]) hc)) rfl rfl ?_))))|(apply z08;(first|refine z0o ?_|apply z09))|(apply z05;(first|apply z06|apply z00|apply z04|apply z01|apply z23|refine z0f (fun _=>?_) (fun _=>?_)| refine z0h ?_))|(apply z25;(first|(apply z0t;refine z1b mix ?_)|refine z29 ?_| (apply z0j;(first|refine z0g z1m rfl rfl ?_| refine z0g z2j rfl rfl ?_))|(apply z0l;(refine z0g (zkm rfl (by decide) (by decide) rfl) rfl rfl ?_))|(apply z1k;(first|refine z4d e1 ?_| refine z4d e2 ?_))|(apply z1s;(refine z57 (by first|exact rfl|exact⟨_,rfl,rfl,rfl⟩) rfl rfl rfl rfl rfl rfl ?_))|(apply zca;(refine zg8 (by first|exact rfl|exact⟨_,rfl,rfl,rfl⟩) rfl rfl (by decide) ?_))|refine zvc (by first|exact rfl|exact⟨_,rfl,rfl,rfl⟩) rfl rfl rfl rfl rfl rfl rfl (by decide) ?_)))
     all_goals try (exfalso;simp only[zA4] at *;omega)
     refine z16 ?_
     refine z0c (z1u (fun k:Nat=>⟨101,[(2,I .i64 op),(3,.ptr (0,3) 0),(4,.ptr (0,4) 0),(6,.ptr (0,6) 0),(7,.ptr (0,7) 0),(8,.ref (0,1000)),(9,I .i64 (i:Nat)),(10,.ptr (0,10) 0),(11,.ref (0,1003)),(14,.ptr (0,14) 0),(15,I .i64 (k:Nat)),(50,.d (z5g P)),(51,I .i64 P.length),(52,I .i64 (j:Nat))],[(3,.box [.d (z7s Fa),.d (.slice (Aa.map z4n))]),(4,.box [.d (z7s Fb),.d (.slice (Ab'.map z4n))]),(6,.box [.d (.lit z3g),.d (.lit z3g),.d (.lit z3g)]),(7,.box [.d (z5g P),.ref (0,1001),.ref (0,1002)]),(10,.box [.d (z1x p.1),.d (z1x p.2)]),(14,.box [.d (z1x n1),.d (z1x n2)]),(1000,.row 129 2 (L2.map pcc)),(1001,.row 4 1 ((F++[fb]).map boc)),(1002,.row 94 1 (N.map z73)),(1003,.row 3 1 (row.map icc))],H⟩) (fun k=>k≤L2.length∧k+z3y (n1,n2) (L2.drop k)=z3y (n1,n2) L2) (fun k=>L2.length-k) ?_ 0 ⟨zAf _,by simp⟩) rfl rfl
     rintro k ⟨k1,k2⟩ ihk
     by_cases hkl:k<L2.length
     · obtain⟨y,hy⟩:∃ y,L2[k]? =some y:=⟨_,zA0 hkl⟩
       rw[zpr hy] at k2
       by_cases hyn:y=(n1,n2)
       · rw[zAz hyn,Nat.add_zero] at k2
         rw[← k2] at ih'
         rw[z6b,zAz (hyn▸zA2 hy)] at ih'
         clear ihk
         have hneq:=zAi hyn
         repeat' (first|(apply z07;(first|refine z0p ?_| (apply z0a;(refine z02 z2j rfl rfl ?_))|(apply z0n;(refine z02 (z0r z0y) rfl rfl ?_))|(apply z14;(first|refine z30 (g:=icc) (k:Int) rfl ?_| refine z02 (z1h rfl) rfl rfl ?_))|(apply z2h;(refine z2n rfl ?_))))|(apply z08;(first|refine z0o ?_|apply z09))|(apply z05;(first|apply z06|apply z00|refine z0w ?_| apply z04|apply z01|apply z23|apply z03|refine z0f (fun _=>?_) (fun _=>?_)| refine z4i rfl (fun _=>?_) (fun _=>?_)|refine z0h ?_))|(apply z25;(first|(apply z0t;refine z1b mix ?_)|refine z1z ?_| refine z29 ?_| (apply z0j;(first|refine z0g (z62 hy rfl rfl) rfl rfl ?_| refine z0g z2j rfl rfl ?_))|(apply z0l;(refine z0g (z2d rfl (by simp only[zA4];omega)) rfl rfl ?_))|(apply z1q;(refine z0g (zy1 (op:=.neq) (tx:=129) (zop y (n1,n2))) rfl rfl ?_))|(apply z4l;(refine z0g (z1h rfl) rfl rfl ?_))|(refine z0x rfl rfl (fun hg=>?_) (fun hg=>?_) <;> simp only[hg] <;> (try simp only[zA3,zA5,zA6,zA8] at hg)))))
         all_goals try (exfalso;first|omega|(simp[hyn] at *;done)|(simp only[zA4] at *;omega))
         all_goals refine z2a 92 1003 ?_
         all_goals exact z0c ih' rfl rfl
       · rw[zAy hyn] at k2
         have ihk':=ihk (k+1) ⟨by omega,by omega⟩ (by omega)
         clear ihk
         repeat' (first|(apply z07;(first|refine z0p ?_| (apply z0a;(refine z02 z2j rfl rfl ?_))|(apply z0n;(refine z02 (z0r z0y) rfl rfl ?_))|(apply z14;(first|refine z02 (z1h rfl) rfl rfl ?_| refine z30 _ rfl ?_))|(apply z2h;(refine z2n rfl ?_))))|(apply z08;(first|refine z0o ?_|apply z09))|(apply z05;(first|apply z06|apply z00|refine z0w ?_| apply z04|apply z01|apply z23|apply z03|refine z0f (fun _=>?_) (fun _=>?_)| refine z4i rfl (fun _=>?_) (fun _=>?_)|refine z0h ?_))|(apply z25;(first|(apply z0t;refine z1b mix ?_)|refine z1z ?_| refine z29 ?_| (apply z0j;(first|refine z0g (z62 hy rfl rfl) rfl rfl ?_| refine z0g z2j rfl rfl ?_))|(apply z0l;(refine z0g (z2d rfl (by simp only[zA4];omega)) rfl rfl ?_))|(apply z1q;(refine z0g (zy1 (op:=.neq) (tx:=129) (zop y (n1,n2))) rfl rfl ?_))|(apply z4l;(refine z0g (z1h rfl) rfl rfl ?_))|(refine z0x rfl rfl (fun hg=>?_) (fun hg=>?_) <;> simp only[hg] <;> (try simp only[zA3,zA5,zA6,zA8] at hg)))))
         all_goals try (exfalso;first|omega|(simp[hyn] at *;done)|(simp only[zA4] at *;omega))
         all_goals exact z0c ihk' rfl rfl
     · obtain rfl:k=L2.length:=by omega
       rw[zAs,z3y,Nat.add_zero] at k2
       have hnm:(n1,n2)∉L2:=fun hm=>by have:=(z3t hm).1;omega
       rw[← k2] at ih'
       rw[z6b,zAy hnm] at ih'
       clear ihk
       repeat' (first|(apply z07;(first|refine z0p ?_| (apply z0a;(refine z02 z2j rfl rfl ?_))|(apply z0n;(refine z02 (z0r z0y) rfl rfl ?_))|(apply z14;(first|refine z30 (g:=pcc) (n1,n2) rfl ?_| refine z30 (g:=icc) (L2.length:Int) rfl ?_| refine z02 (z1h rfl) rfl rfl ?_))|(apply z2h;(refine z2n rfl ?_))))|(apply z08;(first|refine z0o ?_|apply z09))|(apply z05;(first|apply z06|apply z00|refine z0w ?_| apply z04|apply z23|apply z03|refine z0f (fun _=>?_) (fun _=>?_)| refine z0h ?_))|(apply z25;(first|(apply z0t;refine z1b mix ?_)|refine z1z ?_| refine z29 ?_| (apply z4l;(refine z0g (z1h rfl) rfl rfl ?_))|(refine z0x rfl rfl (fun hg=>?_) (fun hg=>?_) <;> simp only[hg] <;> (try simp only[zA3,zA5,zA6,zA8] at hg)))))
       all_goals try (exfalso;first|omega|(simp only[zA4] at *;omega))
       all_goals refine z2a 88 1000 ?_
       all_goals refine z2a 92 1003 ?_
       all_goals exact z0c ih' rfl rfl
   · obtain rfl:j=P.length:=by omega
     rw[zAs,List.foldl_nil] at j5
     rw[← j5] at i6
     simp only at i6
     have ih':=ih (i+1,L2,F++[fb],N++[row]) ⟨by omega,by simp only;omega,by simp[i3],by simp[i4],j4,by simp only;rw[show m-(i+1)=fu by omega];exact i6⟩ (by simp only;omega)
     clear ihj ih hn1 hn2 hnr1 hnr2
     refine z1r 1003 rfl ?_
     repeat' (first|(apply z07;(first|refine z0p ?_| (apply z0a;(refine z02 z1m rfl rfl ?_))|(apply z0e;(refine z02 z0s rfl rfl ?_))|(apply z0n;(refine z02 (z0r z0y) rfl rfl ?_))|(apply z14;(refine z30 (g:=z73) row rfl ?_))|(apply z0d;(refine z2g ?_))|(apply z2h;(refine z2n rfl ?_))))|(apply z08;(first|refine z0o ?_|apply z09))|(apply z05;(first|apply z06|apply z00|apply z04|apply z01|apply z03|refine z0f (fun _=>?_) (fun _=>?_)| refine z0h ?_)))
     all_goals try (exfalso;omega)
     all_goals refine z2a 98 1002 ?_
     all_goals exact z0c ih' rfl rfl
 · rw[zAv (by omega)] at i6
   simp only[zAh] at i6
   subst i6
   clear ih
   refine z1r 1001 rfl ?_
   refine z1r 1002 rfl ?_
   repeat' (first|(apply z07;(first|refine z0p ?_| (apply z0a;(refine z02 z2j rfl rfl ?_))|(apply z14;(refine z02 (z1h rfl) rfl rfl ?_))|(apply z0d;(refine z2g ?_))))|(apply z08;(first|refine z0o ?_|apply z09))|(apply z05;(first|apply z06|apply z00|apply z04|apply z01|refine z0f (fun _=>?_) (fun _=>?_)| refine z0h ?_)))
   all_goals try (exfalso;omega)
   all_goals exact z0q Tryz.func46 _ (z4c rfl rfl rfl rfl rfl rfl) ⟨rfl,rfl⟩
theorem zke {t:Tbl} (hW:z9a t) {i:Nat} (hi:i<t.F.length):∃ r,t.N[i]? =some r∧t.row i=r∧r.length=t.P.length∧∀ n∈r,0≤n∧n<t.F.length:=by
 obtain⟨r,hr⟩:∃ r,t.N[i]? =some r:=⟨_,zA0 (by rw[hW.len];exact hi)⟩
 exact⟨r,hr,by rw[Tbl.row,List.getD,hr];rfl,hW.row r (zA2 hr)⟩
theorem zs4 {l:List Int} {n:Int} {m:Nat} (hl:l.length=m) (h:0≤n∧n<m):∃ x,l[n.toNat]? =some x∧cAt l n=x:=by
 obtain⟨x,hx⟩:∃ x,l[n.toNat]? =some x:=⟨_,zA0 (by omega)⟩
 exact⟨x,hx,by rw[cAt,z2s hx]⟩
theorem zyz (t:Tbl) (hW:z9a t) (hn:t.F.length≤1000000) (hP:t.P.length≤1000) (c:List Int) (hc:c.length=t.F.length) (i k:Nat) (hi:i<t.F.length) (hk:k<t.F.length) :
 z0z Tryz.prog 115 [.d (zw0 t),.d (ints c),I .i64 (i:Nat),I .i64 (k:Nat)] (B (t.alk c i k)):=by
 refine z1l fun H=>?_
 obtain⟨ri,hri,ri1,ri2,ri3⟩:=zke hW hi
 obtain⟨rk,hrk,rk1,rk2,rk3⟩:=zke hW hk
 obtain⟨ci,hci⟩:∃ x,c[i]? =some x:=⟨_,zA0 (by omega)⟩
 obtain⟨ck,hck⟩:∃ x,c[k]? =some x:=⟨_,zA0 (by omega)⟩
 rw[Tbl.alk,ri1,rk1,z2s hci,z2s hck]
 have hNl:=hW.len
 clear hW ri1 rk1
 obtain⟨P,F,N⟩:=t
 simp only at hn hP hc hi hk hri ri2 ri3 hrk rk2 rk3 hNl ⊢
 obtain⟨res,hres⟩:∃ b,zu9 c ri rk=b:=⟨_,rfl⟩
 rw[hres]
 refine z0m Tryz.func115 (by kernel_rfl) rfl (by simp) ?_
 dsimp only[Tryz.f115]
 by_cases he:ci=ck
 · rw[zAi he,Bool.true_and]
   repeat' (first|(apply z07;(first|refine z0p ?_| (apply z0a;(refine z02 z1m rfl rfl ?_))|(apply z0e;(refine z02 z0s rfl rfl ?_))|(apply z14;(refine z02 (z1j rfl) rfl rfl ?_))|(apply z1y;(refine z0b z2e ?_))))|(apply z08;(first|refine z0o ?_|apply z09))|(apply z05;(first|apply z06|apply z00|apply z04|apply z01|apply z23|refine z4i rfl (fun _=>?_) (fun _=>?_)))|(apply z25;(first|(apply z0t;refine z1b mix ?_)|refine z29 ?_| (apply z0j;(refine z0g z22 rfl rfl ?_))|(apply z0l;(first|refine z0g (z0v (ys:=c.map fun x=>[z1x x]) rfl (idx (g:=fun x=>[z1x x]) hci)) rfl rfl ?_| refine z0g (z0v (ys:=c.map fun x=>[z1x x]) rfl (idx (g:=fun x=>[z1x x]) hck)) rfl rfl ?_)))))
   all_goals try (exfalso;omega)
   refine z16 ?_
   refine z0c (z1u (fun q:Nat=>⟨49,[(1,.d (ints c)),(2,I .i64 (i:Nat)),(3,I .i64 (k:Nat)),(4,.ptr (0,4) 0),(20,.d (z5g P)),(21,I .i64 P.length),(22,I .i64 (q:Nat))],[(4,.box [.d (z5g P),.d (z7s F),.d (.slice (N.map z73))])],H⟩) (fun q=>q≤P.length∧zu9 c (ri.drop q) (rk.drop q)=res) (fun q=>P.length-q) ?_ 0 ⟨zAf _,hres⟩) rfl rfl
   rintro q ⟨q1,q2⟩ ih
   by_cases hq:q<P.length
   · obtain⟨x,hx⟩:∃ x,ri[q]? =some x:=⟨_,zA0 (by omega)⟩
     obtain⟨y,hy⟩:∃ x,rk[q]? =some x:=⟨_,zA0 (by omega)⟩
     have hxr:=ri3 x (zA2 hx)
     have hyr:=rk3 y (zA2 hy)
     obtain⟨cx,hcx,hcx'⟩:=zs4 hc hxr
     obtain⟨cy,hcy,hcy'⟩:=zs4 hc hyr
     rw[drop_cons hx,drop_cons hy,zu9,hcx',hcy'] at q2
     by_cases hxy:cx=cy
     · rw[zAi hxy,Bool.true_and] at q2
       have ih':=ih (q+1) ⟨by omega,q2⟩ (by omega)
       repeat' (first|(apply z07;(first|refine z0p ?_| (apply z0n;(refine z02 (z0r z0y) rfl rfl ?_))))|(apply z08;(first|refine z0o ?_|apply z09))|(apply z05;(first|apply z06|apply z00|apply z04|apply z01|apply z23|apply z03|refine z0f (fun _=>?_) (fun _=>?_)| refine z4i rfl (fun _=>?_) (fun _=>?_)|refine z0h ?_))|(apply z25;(first|(apply z0t;refine z1b mix ?_)|refine z29 ?_| (apply z0j;(first|refine z0g z1m rfl rfl ?_| refine z0g z22 rfl rfl ?_))|(apply z13;(refine z0g z0s rfl rfl ?_))|(apply z0l;(first|refine z0g (z0v (ys:=N.map z73) rfl (idx (g:=z73) hri)) rfl rfl ?_| refine z0g (z0v (ys:=N.map z73) rfl (idx (g:=z73) hrk)) rfl rfl ?_| refine z0g (z0v (ys:=ri.map fun x=>[z1x x]) rfl (idx (g:=fun x=>[z1x x]) hx)) rfl rfl ?_| refine z0g (z0v (ys:=rk.map fun x=>[z1x x]) rfl (idx (g:=fun x=>[z1x x]) hy)) rfl rfl ?_| refine z0g (z0v (ys:=c.map fun x=>[z1x x]) rfl (z5o (g:=fun x=>[z1x x]) hcx)) rfl rfl ?_| refine z0g (z0v (ys:=c.map fun x=>[z1x x]) rfl (z5o (g:=fun x=>[z1x x]) hcy)) rfl rfl ?_)))))
       all_goals exact zD6
     · rw[zAo hxy,Bool.false_and] at q2
       rw[← q2]
       clear ih
       repeat' (first|(apply z07;(first|refine z0p ?_| (apply z0n;(refine z02 (z0r z0y) rfl rfl ?_))))|(apply z08;(first|refine z0o ?_|apply z09))|(apply z05;(first|apply z06|apply z00|apply z04|apply z01|apply z23|apply z03|refine z0f (fun _=>?_) (fun _=>?_)| refine z4i rfl (fun _=>?_) (fun _=>?_)|refine z0h ?_))|(apply z25;(first|(apply z0t;refine z1b mix ?_)|refine z29 ?_| (apply z0j;(first|refine z0g z1m rfl rfl ?_| refine z0g z22 rfl rfl ?_))|(apply z13;(refine z0g z0s rfl rfl ?_))|(apply z0l;(first|refine z0g (z0v (ys:=N.map z73) rfl (idx (g:=z73) hri)) rfl rfl ?_| refine z0g (z0v (ys:=N.map z73) rfl (idx (g:=z73) hrk)) rfl rfl ?_| refine z0g (z0v (ys:=ri.map fun x=>[z1x x]) rfl (idx (g:=fun x=>[z1x x]) hx)) rfl rfl ?_| refine z0g (z0v (ys:=rk.map fun x=>[z1x x]) rfl (idx (g:=fun x=>[z1x x]) hy)) rfl rfl ?_| refine z0g (z0v (ys:=c.map fun x=>[z1x x]) rfl (z5o (g:=fun x=>[z1x x]) hcx)) rfl rfl ?_| refine z0g (z0v (ys:=c.map fun x=>[z1x x]) rfl (z5o (g:=fun x=>[z1x x]) hcy)) rfl rfl ?_)))))
       all_goals exact zD93
   · rw[show ri.drop q=[] from List.drop_eq_nil_iff.2 (by omega),show rk.drop q=[] from List.drop_eq_nil_iff.2 (by omega),show zu9 c [] []=true from rfl] at q2
     rw[← q2]
     clear ih
     repeat' (first|(apply z07;(refine z0p ?_))|(apply z08;(first|refine z0o ?_|apply z09))|(apply z05;(first|apply z06|apply z00|apply z04|apply z01|apply z23|refine z0f (fun _=>?_) (fun _=>?_)| refine z0h ?_))|(apply z25;(first|refine z29 ?_| (apply z0j;(refine z0g z1m rfl rfl ?_))|(apply z13;(refine z0g z0s rfl rfl ?_)))))
     all_goals exact zD93
 · rw[zAo he,Bool.false_and]
   repeat' (first|(apply z07;(first|refine z0p ?_| (apply z0a;(refine z02 z1m rfl rfl ?_))|(apply z0e;(refine z02 z0s rfl rfl ?_))|(apply z14;(refine z02 (z1j rfl) rfl rfl ?_))|(apply z1y;(refine z0b z2e ?_))))|(apply z08;(first|refine z0o ?_|apply z09))|(apply z05;(first|apply z06|apply z00|apply z04|apply z01|apply z23|refine z4i rfl (fun _=>?_) (fun _=>?_)))|(apply z25;(first|(apply z0t;refine z1b mix ?_)|refine z29 ?_| (apply z0j;(refine z0g z22 rfl rfl ?_))|(apply z0l;(first|refine z0g (z0v (ys:=c.map fun x=>[z1x x]) rfl (idx (g:=fun x=>[z1x x]) hci)) rfl rfl ?_| refine z0g (z0v (ys:=c.map fun x=>[z1x x]) rfl (idx (g:=fun x=>[z1x x]) hck)) rfl rfl ?_)))))
   all_goals exact zD93
theorem zyg (t:Tbl) (n:Nat) (hn:n≤1000000) (c d:List Int) (hc:c.length=n) (hd:d.length=n):z0z Tryz.prog 116 [.d (zw0 t),.d (ints c),.d (ints d)] (B (Go.Ax.spl c d n)):=by
 refine z1l fun H=>?_
 obtain⟨res,hres⟩:∃ b,Go.Ax.spl c d n=b:=⟨_,rfl⟩
 rw[hres]
 rw[Go.Ax.spl] at hres
 obtain⟨P,F,N⟩:=t
 refine z0m Tryz.func116 (by kernel_rfl) rfl (by simp) ?_
 dsimp only[Tryz.f116]
 repeat' (first|(apply z07;(first|refine z0p ?_| (apply z14;(refine z02 (z1j rfl) rfl rfl ?_))|(apply z1y;(refine z0b z2e ?_))))|(apply z08;(first|refine z0o ?_|apply z09))|(apply z05;(first|apply z06|apply z00|apply z01)))
 all_goals try (exfalso;omega)
 refine z16 ?_
 refine z0c (z1u (fun q:Nat=>⟨40,[(1,.d (ints c)),(2,.d (ints d)),(10,I .i64 c.length),(11,I .i64 (q:Nat))],[],H⟩) (fun q=>q≤n∧ziv (fun i=>ziv (zy3 c d i) i 0) (n-q) q=res) (fun q=>n-q) ?_ 0 ⟨zAf _,hres⟩) rfl rfl
 rintro i ⟨i1,i2⟩ ih
 by_cases hi:i<n
 · obtain⟨ci,hci⟩:∃ x,c[i]? =some x:=⟨_,zA0 (by omega)⟩
   obtain⟨di,hdi⟩:∃ x,d[i]? =some x:=⟨_,zA0 (by omega)⟩
   rw[show n-i=(n-(i+1))+1 by omega,ziv] at i2
   repeat' (first|(apply z07;(refine z0p ?_))|(apply z08;(first|refine z0o ?_|apply z09))|(apply z05;(first|apply z06|apply z00|apply z04|apply z01|refine z0f (fun _=>?_) (fun _=>?_)| refine z0h ?_)))
   all_goals try (exfalso;omega)
   refine z16 ?_
   refine z0c (z1u (fun q:Nat=>⟨40,[(1,.d (ints c)),(2,.d (ints d)),(7,I .i64 (i:Nat)),(8,I .i64 (q:Nat)),(10,I .i64 c.length),(11,I .i64 (i:Nat))],[],H⟩) (fun q=>q≤i∧(ziv (zy3 c d i) (i-q) q||ziv (fun i=>ziv (zy3 c d i) i 0) (n-(i+1)) (i+1))=res) (fun q=>i-q) ?_ 0 ⟨zAf _,i2⟩) rfl rfl
   rintro k ⟨k1,k2⟩ ihk
   by_cases hk:k<i
   · obtain⟨ck,hck⟩:∃ x,c[k]? =some x:=⟨_,zA0 (by omega)⟩
     obtain⟨dk,hdk⟩:∃ x,d[k]? =some x:=⟨_,zA0 (by omega)⟩
     rw[show i-k=(i-(k+1))+1 by omega,ziv,zy3,z2s hci,z2s hck,z2s hdi,z2s hdk] at k2
     by_cases hcd:ci=ck∧di≠dk
     · rw[zAi hcd.1,zAi hcd.2,Bool.true_and,Bool.true_or,Bool.true_or] at k2
       rw[← k2]
       obtain⟨h1,h2⟩:=hcd
       clear ih ihk
       repeat' (first|(apply z07;(first|refine z0p ?_| (apply z0n;(refine z02 (z0r z0y) rfl rfl ?_))))|(apply z08;(first|refine z0o ?_|apply z09))|(apply z05;(first|apply z06|apply z00|refine z0w ?_| apply z04|apply z01|apply z23|apply z03|refine z0f (fun _=>?_) (fun _=>?_)| refine z4i rfl (fun _=>?_) (fun _=>?_)|refine z0h ?_))|(apply z25;(first|(apply z0t;refine z1b mix ?_)|refine z1z ?_| refine z29 ?_| (apply z0j;(refine z0g z22 rfl rfl ?_))|(apply z0l;(first|refine z0g (z0v (ys:=c.map fun x=>[z1x x]) rfl (idx (g:=fun x=>[z1x x]) hci)) rfl rfl ?_| refine z0g (z0v (ys:=c.map fun x=>[z1x x]) rfl (idx (g:=fun x=>[z1x x]) hck)) rfl rfl ?_| refine z0g (z0v (ys:=d.map fun x=>[z1x x]) rfl (idx (g:=fun x=>[z1x x]) hdi)) rfl rfl ?_| refine z0g (z0v (ys:=d.map fun x=>[z1x x]) rfl (idx (g:=fun x=>[z1x x]) hdk)) rfl rfl ?_))|(refine z0x rfl rfl (fun hg=>?_) (fun hg=>?_) <;> simp only[hg] <;> (try simp only[zA3,zA5,zA6,zA8] at hg)))))
       all_goals try (exfalso;omega)
       all_goals exact z0q Tryz.func116 _ z1e ⟨rfl,rfl⟩
     · have hf:(decide (ci=ck)&&decide (di≠dk))=false:=by rw[← Bool.decide_and];exact zAo hcd
       rw[hf,Bool.false_or] at k2
       have ih':=ihk (k+1) ⟨by omega,k2⟩ (by omega)
       clear ih ihk
       repeat' (first|(apply z07;(first|refine z0p ?_| (apply z0n;(refine z02 (z0r z0y) rfl rfl ?_))))|(apply z08;(first|refine z0o ?_|apply z09))|(apply z05;(first|apply z06|apply z00|refine z0w ?_| apply z04|apply z01|apply z23|apply z03|refine z0f (fun _=>?_) (fun _=>?_)| refine z4i rfl (fun _=>?_) (fun _=>?_)|refine z0h ?_))|(apply z25;(first|(apply z0t;refine z1b mix ?_)|refine z1z ?_| refine z29 ?_| (apply z0j;(refine z0g z22 rfl rfl ?_))|(apply z0l;(first|refine z0g (z0v (ys:=c.map fun x=>[z1x x]) rfl (idx (g:=fun x=>[z1x x]) hci)) rfl rfl ?_| refine z0g (z0v (ys:=c.map fun x=>[z1x x]) rfl (idx (g:=fun x=>[z1x x]) hck)) rfl rfl ?_| refine z0g (z0v (ys:=d.map fun x=>[z1x x]) rfl (idx (g:=fun x=>[z1x x]) hdi)) rfl rfl ?_| refine z0g (z0v (ys:=d.map fun x=>[z1x x]) rfl (idx (g:=fun x=>[z1x x]) hdk)) rfl rfl ?_))|(refine z0x rfl rfl (fun hg=>?_) (fun hg=>?_) <;> simp only[hg] <;> (try simp only[zA3,zA5,zA6,zA8] at hg)))))
       all_goals try (exfalso;first|omega|exact hcd ⟨by omega,by omega⟩)
       all_goals exact z0c ih' rfl rfl
   · obtain rfl:k=i:=by omega
     rw[Nat.sub_self,ziv,Bool.false_or] at k2
     have ih':=ih (k+1) ⟨by omega,k2⟩ (by omega)
     clear ih ihk
     repeat' (first|(apply z07;(first|refine z0p ?_| (apply z0n;(refine z02 (z0r z0y) rfl rfl ?_))))|(apply z08;(first|refine z0o ?_|apply z09))|(apply z05;(first|apply z06|apply z00|apply z04|apply z01|apply z23|apply z03|refine z0f (fun _=>?_) (fun _=>?_)| refine z0h ?_))|(apply z25;(refine z29 ?_)))
     all_goals exact zD6
 · obtain rfl:i=n:=by omega
   rw[Nat.sub_self,ziv] at i2
   rw[← i2]
   clear ih
   repeat' (first|(apply z07;(refine z0p ?_))|(apply z08;(first|refine z0o ?_|apply z09))|(apply z05;(first|apply z06|apply z00|apply z04|apply z01|refine z0f (fun _=>?_) (fun _=>?_)| refine z0h ?_)))
   all_goals try (exfalso;omega)
   all_goals exact z0q Tryz.func116 _ z1e ⟨rfl,rfl⟩
theorem y15 (t:Tbl) (hW:z9a t) (hn:t.F.length≤1000000) (hP:t.P.length≤1000):z0z Tryz.prog 91 [.d (zw0 t)] (.d (z7s t.live)):=by
 refine z1l fun H=>?_
 obtain⟨res,hres⟩:∃ b,t.lvT t.F.length t.F=b:=⟨_,rfl⟩
 rw[Tbl.live,hres]
 have hrow:=fun i (hi:i<t.F.length)=>zke hW hi
 obtain⟨P,F,N⟩:=t
 simp only at hn hP hrow hres
 refine z0m Tryz.func91 (by kernel_rfl) rfl (by simp) ?_
 dsimp only[Tryz.f91]
 repeat' (first|(apply z07;(first|refine z0p ?_| (apply z0a;(refine z02 z1m rfl rfl ?_))|(apply z0e;(refine z02 z0s rfl rfl ?_))|(apply z14;(first|refine y2v (r:=F) (g:=boc) rfl rfl rfl (fun _=>rfl) rfl rfl (by decide) (by omega) ?_|refine z02 (z1h rfl) rfl rfl ?_))|(apply z1y;(refine z0b z2e ?_))))|(apply z08;(first|refine z0o ?_|apply z09))|(apply z05;(first|apply z06|apply z00|apply z01)))
 all_goals try (exfalso;omega)
 refine z2a 9 1000 ?_
 refine z16 ?_
 refine z0c (z1u (fun q:Nat × List Bool=>⟨46,[(1,.ptr (0,1) 0),(3,.ref (0,1000)),(11,I .i64 F.length),(12,I .i64 (q.1:Nat))],[(1,.box [.d (z5g P),.d (z7s F),.d (.slice (N.map z73))]),(1000,.row 4 1 (q.2.map boc))],H⟩) (fun q=>q.1≤F.length∧q.2.length=F.length∧(⟨P,F,N⟩:Tbl).lvT (F.length-q.1) q.2=res) (fun q=>F.length-q.1) ?_ (0,F) ⟨zAf _,rfl,hres⟩) rfl rfl
 rintro⟨q,l⟩ ⟨q1,q2,q3⟩ ih
 simp only at q1 q2 q3 ih ⊢
 by_cases hq:q<F.length
 · rw[show F.length-q=(F.length-(q+1))+1 by omega,Tbl.lvT] at q3
   repeat' (first|(apply z07;(first|refine z0p ?_| (apply z14;(refine z02 (z1h rfl) rfl rfl ?_))))|(apply z08;(first|refine z0o ?_|apply z09))|(apply z05;(first|apply z06|apply z00|apply z04|apply z01|refine z0f (fun _=>?_) (fun _=>?_)| refine z0h ?_)))
   all_goals try (exfalso;omega)
   refine z16 ?_
   refine z0c (z1u (fun s:Nat × List Bool=>⟨46,[(1,.ptr (0,1) 0),(3,.ref (0,1000)),(11,I .i64 F.length),(12,I .i64 (q:Nat)),(15,I .i64 l.length),(16,I .i64 (s.1:Nat))],[(1,.box [.d (z5g P),.d (z7s F),.d (.slice (N.map z73))]),(1000,.row 4 1 (s.2.map boc))],H⟩) (fun s=>s.1≤F.length∧s.2.length=F.length∧(⟨P,F,N⟩:Tbl).lvT (F.length-(q+1)) ((⟨P,F,N⟩:Tbl).lvRnd (F.length-s.1) s.1 s.2)=res) (fun s=>F.length-s.1) ?_ (0,l) ⟨zAf _,q2,q3⟩) rfl rfl
   rintro⟨i,l2⟩ ⟨i1,i2,i3⟩ ihi
   simp only at i1 i2 i3 ihi ⊢
   by_cases hi:i<F.length
   · obtain⟨r,hr,hr1,hr2,hr3⟩:=hrow i hi
     rw[show F.length-i=(F.length-(i+1))+1 by omega,Tbl.lvRnd,Tbl.lvRow,hr1] at i3
     repeat' (first|(apply z07;(first|refine z0p ?_| (apply z0a;(first|refine z02 z1m rfl rfl ?_| refine z02 z22 rfl rfl ?_))|(apply z0e;(refine z02 z0s rfl rfl ?_))|(apply z0i;(refine z02 (z0v (ys:=N.map z73) rfl (idx (g:=z73) hr)) rfl rfl ?_))|(apply z0n;(refine z02 (z0r z0y) rfl rfl ?_))|(apply z14;(refine z02 (z1j rfl) rfl rfl ?_))))|(apply z08;(first|refine z0o ?_|apply z09))|(apply z05;(first|apply z06|apply z00|apply z04|apply z01|apply z03|refine z0f (fun _=>?_) (fun _=>?_)| refine z0h ?_)))
     all_goals try (exfalso;omega)
     refine z16 ?_
     refine z0c (z1u (fun s:Nat × List Bool=>⟨46,[(1,.ptr (0,1) 0),(3,.ref (0,1000)),(4,I .i64 (i:Nat)),(11,I .i64 F.length),(12,I .i64 (q:Nat)),(15,I .i64 l.length),(16,I .i64 (i:Nat)),(23,.d (ints r)),(24,I .i64 r.length),(25,I .i64 (s.1:Nat))],[(1,.box [.d (z5g P),.d (z7s F),.d (.slice (N.map z73))]),(1000,.row 4 1 (s.2.map boc))],H⟩) (fun s=>s.1≤r.length∧s.2.length=F.length∧(⟨P,F,N⟩:Tbl).lvT (F.length-(q+1)) ((⟨P,F,N⟩:Tbl).lvRnd (F.length-(i+1)) (i+1) ((r.drop s.1).foldl (lvS i) s.2))=res) (fun s=>r.length-s.1) ?_ (0,l2) ⟨zAf _,i2,i3⟩) rfl rfl
     rintro⟨j,l3⟩ ⟨j1,j2,j3⟩ ihj
     simp only at j1 j2 j3 ihj ⊢
     by_cases hj:j<r.length
     · obtain⟨n,hn1⟩:∃ n,r[j]? =some n:=⟨_,zA0 hj⟩
       have hnr:=hr3 n (zA2 hn1)
       obtain⟨bi,hbi⟩:∃ b,l3[i]? =some b:=⟨_,zA0 (by omega)⟩
       obtain⟨bn,hbn⟩:∃ b,l3[n.toNat]? =some b:=⟨_,zA0 (by omega)⟩
       have hbi2:l3[((i:Nat):Int).toNat]? =some bi:=by rw[zA9];exact hbi
       rw[drop_cons hn1,List.foldl_cons,lvS,List.getD,List.getD,hbi,hbn,Option.getD_some,Option.getD_some] at j3
       have ih':=ihj (j+1,l3.set i (bi||bn)) ⟨by simp only;omega,by simp only[List.length_set];exact j2,j3⟩ (by simp only;omega)
       have hse:l3.set ((i:Nat):Int).toNat (bi||bn)=l3.set i (bi||bn):=by rw[zA9]
       clear ihj ihi ih
       cases bi
       all_goals repeat' (first|(apply z07;(first|refine z0p ?_| (apply z0a;(first|refine z02 (z11 (u:=z8c false) hbi2) rfl rfl ?_| refine z02 (z11 (u:=z8c true) hbi2) rfl rfl ?_| refine z02 (z11 (u:=z8c bn) hbn) rfl rfl ?_| refine z02 z22 rfl rfl ?_))|(apply z0i;(first|refine z02 (z0v (ys:=r.map fun x=>[z1x x]) rfl (idx (g:=fun x=>[z1x x]) hn1)) rfl rfl ?_| refine z02 (z2d rfl (by simp only[zA4];omega)) rfl rfl ?_))|(apply z0n;(refine z02 (z0r z0y) rfl rfl ?_))|(apply z0d;(first|refine z4g (true||bn) hbi2 hse ?_| refine z4g (false||bn) hbi2 hse ?_))))|(apply z08;(first|refine z0o ?_|apply z09|refine z1w ?_))|(apply z05;(first|apply z06|apply z00|apply z04|apply z01|apply z03|refine z0f (fun _=>?_) (fun _=>?_)| refine z0h ?_)))
       all_goals try (exfalso;first|omega|(simp only[zA4] at *;omega))
       all_goals exact z0c ih' rfl rfl
     · obtain rfl:j=r.length:=by omega
       rw[zAs,List.foldl_nil] at j3
       have ih':=ihi (i+1,l3) ⟨by simp only;omega,j2,j3⟩ (by simp only;omega)
       clear ihj ihi ih
       all_goals exact zD19
   · obtain rfl:i=F.length:=by omega
     rw[Nat.sub_self,Tbl.lvRnd] at i3
     have ih':=ih (q+1,l2) ⟨by simp only;omega,i2,i3⟩ (by simp only;omega)
     clear ihi ih
     repeat' (first|(apply z07;(first|refine z0p ?_| (apply z0a;(refine z02 z1m rfl rfl ?_))|(apply z0e;(refine z02 z0s rfl rfl ?_))|(apply z0n;(refine z02 (z0r z0y) rfl rfl ?_))))|(apply z08;(first|refine z0o ?_|apply z09))|(apply z05;(first|apply z06|apply z00|apply z04|apply z01|apply z03|refine z0f (fun _=>?_) (fun _=>?_)| refine z0h ?_)))
     all_goals exact zD6
 · obtain rfl:q=F.length:=by omega
   rw[Nat.sub_self,Tbl.lvT] at q3
   rw[← q3]
   clear ih
   refine z1r 1000 rfl ?_
   repeat' (first|(apply z07;(first|refine z0p ?_| (apply z14;(refine z02 (z1j rfl) rfl rfl ?_))))|(apply z08;(first|refine z0o ?_|apply z09))|(apply z05;(first|apply z06|apply z00|apply z04|apply z01|refine z0f (fun _=>?_) (fun _=>?_)| refine z0h ?_)))
   all_goals try (exfalso;omega)
   all_goals exact z0q Tryz.func91 _ z1e ⟨rfl,rfl⟩
end Go.Proofs.YthdfkabdoidjfaaGreatDoor
