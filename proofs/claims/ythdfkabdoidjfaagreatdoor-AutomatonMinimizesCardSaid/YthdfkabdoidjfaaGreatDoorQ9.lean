/- A part of the proof: R8, R9, R10. -/
import Derived.Test.YthdfkabdoidjfaaGreatDoorQ7
import Derived.Test.YthdfkabdoidjfaaGreatDoorQ2
import Derived.Test.YthdfkabdoidjfaaGreatDoorQy
import Derived.Test.YthdfkabdoidjfaaGreatDoorQ3
set_option linter.all false
set_option linter.unusedVariables false
set_option linter.unusedSimpArgs false
namespace Go.Proofs.YthdfkabdoidjfaaGreatDoor
open Go.Ab Go.Ax Go.Rx
set_option maxHeartbeats 20000000
set_option maxRecDepth 100000
attribute [local irreducible] Run Ops Op1 z2b Val Tr z0v z2c NF Rel z3w z3x
abbrev f01 (b:Bool):Int:=if b=true then 1 else 0
theorem zmd (t:Tbl) (hW:z8l t) (hn:t.F.length≤1000000) (hP:t.P.length≤1000) (res:List Int) (hres:t.clsT (t.F.length+1) t.c0=some res):z0v Tryz.prog 90 [.d (zvm t)] (.d (ints res)):=by
 refine z1e fun H=>?_
 have hal:=fun c hc i k hi hk=>zwx t hW hn hP c hc i k hi hk
 have hsp:=fun c d hc hd=>zx2 t t.F.length hn c d hc hd
 have hstep:=fun (c:List Int) (q:Nat) (s:List Int × Int) (hs:DS t c q s) (hq:q<t.F.length)=>hs.step hW hq
 have hc0:t.c0=t.F.map f01:=rfl
 rw[hc0] at hres
 have hc0l:(t.F.map f01).length=t.F.length:=List.length_map _
 obtain⟨P,F,N⟩:=t
 simp only at hn hP hal hsp hc0l hres hstep
 refine z0k Tryz.func90 (by kernel_rfl) rfl (by simp) ?_
 dsimp only[Tryz.f90]
 repeat' (first|(apply z05;(first|refine z0o ?_| (apply z09;(refine z02 z1d rfl rfl ?_))|(apply z0d;(refine z02 z0i rfl rfl ?_))|(apply z0t;(refine z02 (z1b rfl) rfl rfl ?_))|(apply z1q;(refine z0b z25 ?_))|(apply ze3;(refine zed (xs:=(List.replicate F.length (0:Int)).map icc) rfl rfl (Int.natCast_nonneg _) (by show ((F.length:Nat):Int)≤_;omega) rfl rfl rfl (by decide) (by simp) ?_))))|(apply z08;(first|refine z0n ?_|apply z07))|(apply z06;(first|apply z0a|apply z00|apply z01)))
 all_goals try (exfalso;omega)
 refine z1s 13 1000 ?_
 refine z1a ?_
 refine z0e (z1y (fun q:Nat=>⟨81,[(1,.ptr (0,1) 0),(3,.ref (0,1000)),(15,.d (z7a F)),(16,I .i64 F.length),(17,I .i64 (q:Nat))],[(1,.box [.d (z4v P),.d (z7a F),.d (.slice (N.map z6l))]),(1000,.row 3 1 ((((F.map f01).take q)++List.replicate (F.length-q) (0:Int)).map icc))],H⟩) (fun q=>q≤F.length) (fun q=>F.length-q) ?_ 0 (Nat.zero_le _)) rfl rfl
 rintro q q1 ih
 by_cases hq:q<F.length
 · obtain⟨b,hb⟩:∃ b,F[q]? =some b:=⟨_,List.getElem?_eq_getElem hq⟩
   have ih':=ih (q+1) (by omega) (by omega)
   have hfb:(F.map f01)[q]? =some (f01 b):=by rw[List.getElem?_map,hb];rfl
   rw[z5g hfb] at ih'
   have hrs:=za5 hq
   have htl:((F.map f01).take q).length=q:=by rw[List.length_take];omega
   generalize (F.map f01).take q=C at *
   have hget:(C++List.replicate (F.length-q) 0)[((q:Nat):Int).toNat]? =some 0:=by
    rw[hrs,Int.toNat_natCast,List.getElem?_append_right (by omega),htl,Nat.sub_self];rfl
   have hset:∀ v,(C++List.replicate (F.length-q) 0).set ((q:Nat):Int).toNat v=C++[v]++List.replicate (F.length-(q+1)) 0:=fun v=>by
    rw[hrs,Int.toNat_natCast,z9c htl hq,show F.length-(q+1)=F.length-q-1 by omega];simp
   have hno:C++List.replicate (F.length-q) 0=C++[0]++List.replicate (F.length-(q+1)) 0:=by
    rw[hrs,show F.length-(q+1)=F.length-q-1 by omega];simp
   clear ih
   cases b with
   | true =>
    have hs1:=hset 1
    repeat' (first|(apply z05;(first|refine z0o ?_| (apply z09;(refine z02 z1p rfl rfl ?_))|(apply z0f;(first|refine z02 (z1i (ys:=F.map boc) rfl (idx (g:=boc) hb)) rfl rfl ?_| refine z02 (z1v rfl (by omega) (by simp only[List.length_map,List.length_append,List.length_replicate,htl];omega) rfl) rfl rfl ?_))|(apply z0p;(refine z02 (z0q z1c) rfl rfl ?_))|(apply z0c;(refine z42 (1:Int) hget hs1 ?_))))|(apply z08;(first|refine z0n ?_|apply z07))|(apply z06;(first|apply z0a|apply z00|refine z1h ?_| apply z04|apply z01|apply z03|refine z0g (fun _=>?_) (fun _=>?_)| refine z0j ?_)))
    all_goals try (exfalso;first|omega|(simp at *;done))
    all_goals exact z0e ih' rfl rfl
   | false =>
    rw[show f01 false=0 from rfl,← hno] at ih'
    repeat' (first|(apply z05;(first|refine z0o ?_| (apply z09;(refine z02 z1p rfl rfl ?_))|(apply z0f;(refine z02 (z1i (ys:=F.map boc) rfl (idx (g:=boc) hb)) rfl rfl ?_))|(apply z0p;(refine z02 (z0q z1c) rfl rfl ?_))))|(apply z08;(first|refine z0n ?_|apply z07))|(apply z06;(first|apply z0a|apply z00|refine z11 ?_| apply z04|apply z01|apply z03|refine z0g (fun _=>?_) (fun _=>?_)| refine z0j ?_)))
    all_goals try (exfalso;first|omega|(simp at *;done))
    all_goals exact z0e ih' rfl rfl
 obtain rfl:q=F.length:=by omega
 clear ih
 rw[Nat.sub_self,List.replicate_zero,List.append_nil,show (F.map f01).take F.length=F.map f01 by rw[← hc0l,List.take_length]]
 refine z1g 1000 rfl ?_
 repeat' (first|(apply z05;(refine z0o ?_))|(apply z08;(first|refine z0n ?_|apply z07))|(apply z06;(first|apply z0a|apply z00|apply z04|apply z01|refine z0g (fun _=>?_) (fun _=>?_)| refine z0j ?_)))
 all_goals try (exfalso;omega)
 refine z1a ?_
 refine z0e (z1y (fun q:Nat × List Int=>⟨81,[(1,.ptr (0,1) 0),(3,.d (ints q.2))],[(1,.box [.d (z4v P),.d (z7a F),.d (.slice (N.map z6l))])],H⟩) (fun q=>q.2.length=F.length∧(⟨P,F,N⟩:Tbl).clsT q.1 q.2=some res) (fun q=>q.1) ?_ (F.length+1,F.map f01) ⟨hc0l,hres⟩) rfl rfl
 clear hres
 rintro⟨f,c⟩ ⟨hcl,hres⟩ ih
 simp only at hcl hres ih ⊢
 cases f with
 | zero=>rw[Tbl.clsT] at hres;cases hres
 | succ f =>
 rw[Tbl.clsT] at hres
 simp only at hres
 have hR:=ziu hW c F.length 0 ([],0) (by simp only;omega) ⟨rfl,by simp,fun i hi=>by omega,fun i k hi=>by omega⟩
 simp only at hR
 obtain⟨R,hRe⟩:∃ R,(⟨P,F,N⟩:Tbl).dAll c F.length 0 ([],0)=R:=⟨_,rfl⟩
 rw[hRe] at hres hR
 repeat' (first|(apply z05;(first|refine z0o ?_| (apply z0t;(refine z02 (z1b rfl) rfl rfl ?_))|(apply ze3;(refine zed (xs:=(List.replicate F.length (0:Int)).map icc) rfl rfl (Int.natCast_nonneg _) (by first|omega|(simp only[List.length_map];omega)) rfl rfl rfl (by decide) (by simp[hcl]) ?_))))|(apply z08;(first|refine z0n ?_|apply z07))|(apply z06;(first|apply z0a|apply z00|apply z01)))
 all_goals try (exfalso;omega)
 refine z1s 29 1001 ?_
 refine z1a ?_
 refine z0e (z1y (fun q:Nat × List Int × Int=>⟨81,[(1,.ptr (0,1) 0),(3,.d (ints c)),(6,.ref (0,1001)),(7,I .i64 q.2.2),(31,I .i64 c.length),(32,I .i64 (q.1:Nat))],[(1,.box [.d (z4v P),.d (z7a F),.d (.slice (N.map z6l))]),(1001,.row 3 1 ((q.2.1++List.replicate (F.length-q.1) (0:Int)).map icc))],H⟩) (fun q=>q.1≤F.length∧DS ⟨P,F,N⟩ c q.1 q.2∧(⟨P,F,N⟩:Tbl).dAll c (F.length-q.1) q.1 q.2=R) (fun q=>F.length-q.1) ?_ (0,[],0) ⟨Nat.zero_le _,⟨rfl,by simp,fun i hi=>by omega,fun i k hi=>by omega⟩,hRe⟩) rfl rfl
 rintro⟨i,ds,m⟩ ⟨i1,i2,i3⟩ ihi
 simp only at i1 i2 i3 ihi ⊢
 have hdl:ds.length=i:=i2.len
 have hm:=i2.cnt
 simp only at hm
 by_cases hi:i<F.length
 · have hnext:=hstep c i (ds,m) i2 hi
   rw[show F.length-i=(F.length-(i+1))+1 by omega,Tbl.dAll] at i3
   have hrg:=i2.rng
   simp only at hrg
   obtain⟨o,ho⟩:∃ o,zn5 ((⟨P,F,N⟩:Tbl).alk c i) i 0=o:=⟨_,rfl⟩
   rw[Tbl.dOne,ho] at i3 hnext
   have hrs:=za5 hi
   have hgetv:∀ v:Int,(ds++v::List.replicate (F.length-i-1) 0)[((i:Nat):Int).toNat]? =some v:=fun v=>by
    rw[Int.toNat_natCast,List.getElem?_append_right (by omega),hdl,Nat.sub_self];rfl
   have hsetv:∀ v w:Int,(ds++v::List.replicate (F.length-i-1) 0).set ((i:Nat):Int).toNat w=ds++w::List.replicate (F.length-i-1) 0:=fun v w=>by
    rw[Int.toNat_natCast,z9c hdl hi]
   have hlen:∀ v:Int,(ds++v::List.replicate (F.length-i-1) 0).length=F.length:=fun v=>by
    simp only[List.length_append,List.length_cons,List.length_replicate,hdl];omega
   rw[hrs]
   have g0:=hgetv 0
   have s0:=hsetv 0 (-1)
   have l0:=hlen 0
   clear ih
   repeat' (first|(apply z05;(first|refine z0o ?_| (apply z09;(refine z02 z1z rfl rfl ?_))|(apply z0f;(refine z02 (z1v rfl (by omega) (by simp only[List.length_map,l0];omega) rfl) rfl rfl ?_))|(apply z0c;(refine z42 (-1:Int) g0 s0 ?_))))|(apply z08;(first|refine z0n ?_|apply z07))|(apply z06;(first|apply z0a|apply z00|apply z04|apply z01|refine z0g (fun _=>?_) (fun _=>?_)| refine z0j ?_)))
   all_goals try (exfalso;omega)
   refine z1a ?_
   refine z0e (z1y (fun q:Nat × Int=>⟨81,[(1,.ptr (0,1) 0),(3,.d (ints c)),(6,.ref (0,1001)),(7,I .i64 m),(8,I .i64 (i:Nat)),(9,I .i64 (q.1:Nat)),(31,I .i64 c.length),(32,I .i64 (i:Nat))],[(1,.box [.d (z4v P),.d (z7a F),.d (.slice (N.map z6l))]),(1001,.row 3 1 ((ds++q.2::List.replicate (F.length-i-1) (0:Int)).map icc))],H⟩)
    (fun q=>q.1≤i∧((q.2=-1∧zn5 ((⟨P,F,N⟩:Tbl).alk c i) (i-q.1) q.1=o)∨(0≤q.2∧∃ k,o=some k∧q.2=ds.getD k 0))) (fun q=>i-q.1) ?_ (0,-1) ⟨Nat.zero_le _,.inl ⟨rfl,ho⟩⟩) rfl rfl
   rintro⟨k,v⟩ ⟨k1,k2⟩ ihk
   simp only at k1 k2 ihk ⊢
   have gv:=hgetv v
   have lv:=hlen v
   rcases k2 with ⟨rfl,k2⟩|⟨hv,k0,hk0,hvk⟩
   · by_cases hk:k<i
     · rw[show i-k=(i-(k+1))+1 by omega,zn5] at k2
       have hak:=hal c hcl i k hi (by omega)
       obtain⟨dk,hdk⟩:∃ x,ds[k]? =some x:=⟨_,List.getElem?_eq_getElem (by omega)⟩
       have hdkr:=hrg k (by omega)
       rw[z2g hdk] at hdkr
       have gk:(ds++(-1)::List.replicate (F.length-i-1) 0)[((k:Nat):Int).toNat]? =some dk:=by
        rw[Int.toNat_natCast,List.getElem?_append_left (by omega)];exact hdk
       have sk:=hsetv (-1) dk
       cases hb:(⟨P,F,N⟩:Tbl).alk c i k with
       | true =>
        rw[hb] at k2 hak
        rw[if_pos rfl] at k2
        have ih':=ihk (k+1,dk) ⟨by simp only;omega,.inr ⟨hdkr.1,k,k2.symm,(z2g hdk).symm⟩⟩ (by simp only;omega)
        clear ihk ihi
        repeat' (first|(apply z05;(first|refine z0o ?_| (apply z09;(first|refine z02 (z2d (u:=z1m (-1)) gv) rfl rfl ?_| refine z02 (z2d (u:=z1m dk) gk) rfl rfl ?_| refine z02 z1z rfl rfl ?_))|(apply z0f;(refine z02 (z1v rfl (by omega) (by simp only[List.length_map,lv];omega) rfl) rfl rfl ?_))|(apply z0p;(refine z02 (z0q z1c) rfl rfl ?_))|(apply z0u;(refine z1j hak ?_))|(apply z0c;(refine z42 dk gv sk ?_))))|(apply z08;(first|refine z0n ?_|apply z07|refine z1r ?_| refine z2h (fun _=>?_) (fun _=>?_)))|(apply z06;(first|apply z0a|apply z00|refine z1h ?_| refine z11 ?_| apply z04|apply z01|apply z03|refine z0j ?_)))
        all_goals try (exfalso;omega)
        all_goals exact z0e ih' rfl rfl
       | false =>
        rw[hb] at k2 hak
        rw[if_neg (by decide)] at k2
        have ih':=ihk (k+1,-1) ⟨by simp only;omega,.inl ⟨rfl,k2⟩⟩ (by simp only;omega)
        clear ihk ihi
        repeat' (first|(apply z05;(first|refine z0o ?_| (apply z09;(first|refine z02 (z2d (u:=z1m (-1)) gv) rfl rfl ?_| refine z02 z1z rfl rfl ?_))|(apply z0f;(refine z02 (z1v rfl (by omega) (by simp only[List.length_map,lv];omega) rfl) rfl rfl ?_))|(apply z0p;(refine z02 (z0q z1c) rfl rfl ?_))|(apply z0u;(refine z1j hak ?_))))|(apply z08;(first|refine z0n ?_|apply z07|refine z1r ?_| refine z2h (fun _=>?_) (fun _=>?_)))|(apply z06;(first|apply z0a|apply z00|refine z1h ?_| refine z11 ?_| apply z04|apply z01|apply z03|refine z0j ?_)))
        all_goals try (exfalso;omega)
        all_goals exact z0e ih' rfl rfl
     · rw[show i-k=0 by omega,zn5] at k2
       subst k2
       simp only at i3 hnext
       have sm:=hsetv (-1) m
       have ih':=ihi (i+1,ds++[m],m+1) ⟨by simp only;omega,hnext,i3⟩ (by simp only;omega)
       simp only at ih'
       rw[show (ds++[m])++List.replicate (F.length-(i+1)) (0:Int)=ds++m::List.replicate (F.length-i-1) 0 by rw[show F.length-(i+1)=F.length-i-1 by omega];simp] at ih'
       clear ihk ihi
       repeat' (first|(apply z05;(first|refine z0o ?_| (apply z09;(first|refine z02 (z2d (u:=z1m (-1)) gv) rfl rfl ?_| refine z02 z1z rfl rfl ?_))|(apply z0f;(refine z02 (z1v rfl (by omega) (by simp only[List.length_map,lv];omega) rfl) rfl rfl ?_))|(apply z0p;(refine z02 (z0q z1c) rfl rfl ?_))|(apply z0c;(refine z42 m gv sm ?_))))|(apply z08;(first|refine z0n ?_|apply z07|refine z1r ?_| refine z2h (fun _=>?_) (fun _=>?_)))|(apply z06;(first|apply z0a|apply z00|refine z1h ?_| refine z11 ?_| apply z04|apply z01|apply z03|refine z0j ?_)))
       all_goals try (exfalso;omega)
       all_goals exact z0e ih' rfl rfl
   · subst hk0
     simp only at i3 hnext
     rw[← hvk] at i3 hnext
     have ih':=ihi (i+1,ds++[v],m) ⟨by simp only;omega,hnext,i3⟩ (by simp only;omega)
     simp only at ih'
     rw[show (ds++[v])++List.replicate (F.length-(i+1)) (0:Int)=ds++v::List.replicate (F.length-i-1) 0 by rw[show F.length-(i+1)=F.length-i-1 by omega];simp] at ih'
     clear ihk ihi
     repeat' (first|(apply z05;(first|refine z0o ?_| (apply z09;(first|refine z02 (z2d (u:=z1m v) gv) rfl rfl ?_| refine z02 z1z rfl rfl ?_))|(apply z0f;(refine z02 (z1v rfl (by omega) (by simp only[List.length_map,lv];omega) rfl) rfl rfl ?_))|(apply z0p;(refine z02 (z0q z1c) rfl rfl ?_))))|(apply z08;(first|refine z0n ?_|apply z07|refine z1r ?_| refine z2h (fun _=>?_) (fun _=>?_)))|(apply z06;(first|apply z0a|apply z00|refine z11 ?_| apply z04|apply z01|apply z03|refine z0g (fun _=>?_) (fun _=>?_)| refine z0j ?_)))
     all_goals try (exfalso;omega)
     all_goals exact z0e ih' rfl rfl
 · obtain rfl:i=F.length:=by omega
   rw[Nat.sub_self,Tbl.dAll] at i3
   rw[← i3] at hres
   simp only at hres
   have hs:=hsp c ds hcl hdl
   rw[Nat.sub_self,List.replicate_zero,List.append_nil]
   clear ihi
   refine z1g 1001 rfl ?_
   cases hb:Go.Ax.spl c ds F.length with
   | true =>
    rw[hb] at hres hs
    rw[if_pos rfl] at hres
    have ih':=ih (f,ds) ⟨hdl,hres⟩ (by simp only;omega)
    clear ih
    repeat' (first|(apply z05;(first|refine z0o ?_| (apply z09;(refine z02 z1z rfl rfl ?_))|(apply z0u;(refine z1j hs ?_))))|(apply z08;(first|refine z0n ?_|apply z07))|(apply z06;(first|apply z0a|apply z00|refine z11 ?_| apply z04|apply z01|apply z03|refine z0g (fun _=>?_) (fun _=>?_)| refine z0j ?_)))
    all_goals try (exfalso;omega)
    all_goals exact z0e ih' rfl rfl
   | false =>
    rw[hb] at hres hs
    rw[if_neg (by decide)] at hres
    simp only[Option.some.injEq] at hres
    subst hres
    clear ih
    repeat' (first|(apply z05;(first|refine z0o ?_| (apply z09;(refine z02 z1z rfl rfl ?_))|(apply z0u;(refine z1j hs ?_))))|(apply z08;(first|refine z0n ?_|apply z07))|(apply z06;(first|apply z0a|apply z00|refine z1h ?_| apply z04|apply z01|refine z0g (fun _=>?_) (fun _=>?_)| refine z0j ?_)))
    all_goals try (exfalso;omega)
    all_goals exact z0l Tryz.func90 _ z16 ⟨rfl,rfl⟩
end Go.Proofs.YthdfkabdoidjfaaGreatDoor
namespace Go.Proofs.YthdfkabdoidjfaaGreatDoor
open Go.Ab Go.Ax Go.Rx
set_option maxHeartbeats 20000000
set_option maxRecDepth 100000
attribute [local irreducible] Run Ops Op1 z2b Val Tr z0v z2c NF Rel z3w z3x
theorem zy2 {P:List Int} {x:Nat}:nxE (P.drop (x+1))=zdv P x:=by
 rw[zdv]
 cases h:P[x+1]? with
 | none=>rw[List.drop_eq_nil_iff.2 (by simpa using h)];rfl
 | some y=>rw[drop_cons h];rfl
theorem zse {lv:List Bool} {cl P r:List Int} {x:Nat} {p n:Int} (hp:P[x]? =some p) (hn:r[x]? =some n) :
 za6 lv cl (zfp (P.drop x) (r.drop x))=if lv.getD n.toNat false=true then (p,zdv P x,cl.getD n.toNat 0)::za6 lv cl (zfp (P.drop (x+1)) (r.drop (x+1))) else za6 lv cl (zfp (P.drop (x+1)) (r.drop (x+1))):=by
 rw[drop_cons hp,drop_cons hn,zb7,za6,zy2]
theorem zp7 {l:List Bool} {i:Nat} {x:Bool} (h:l[i]? =some x):l.getD i false=x:=by rw[List.getD,h];rfl
theorem zmg (t:Tbl) (hW:z8l t) (hn:t.F.length≤1000000) (hP:t.P.length≤1000) (cl:List Int) (hcl:t.clsT (t.F.length+1) t.c0=some cl) (hcln:cl.length=t.F.length) (fin:Int→Bool) (edg:Int→List (Go.Ax.Edge Int))
 (hfin:∀ s,s<t.F.length→fin (cl.getD s 0)=t.F.getD s false) (hedg:∀ s,s<t.F.length→edg (cl.getD s 0)=za6 t.live cl (t.edg s)) (a:Au) (hex:exL fin edg t.F.length (t.F.length+1) 0 [cl.getD 0 0] ⟨[],[]⟩=some a) :
 z0v Tryz.prog 48 [.d (zvm t)] (.d (auD a)):=by
 refine z1e fun H=>?_
 have h90:=zmd t hW hn hP cl hcl
 have h91:=zzw t hW hn hP
 have hlvl:=(zfr hW).1
 have hpos:=hW.pos
 have hrow:=fun i (hi:i<t.F.length)=>zlx hW hi
 have hend:=fun x (hx:x<t.P.length)=>y2o t.P (by omega) (fun z hz=>by have:=hW.rng z hz;omega) x hx
 have hPr:=hW.rng
 have hNl:=hW.len
 clear hcl hW
 generalize t.live=lv at *
 obtain⟨P,F,N⟩:=t
 simp only[Tbl.edg] at hn hP hfin hedg hex hlvl hpos hrow hend hPr hNl hcln
 obtain⟨c0,hc0⟩:∃ c,cl[0]? =some c:=⟨_,List.getElem?_eq_getElem (by omega)⟩
 have hc0i:cl[(0:Int).toNat]? =some c0:=hc0
 rw[z2g hc0] at hex
 refine z0k Tryz.func48 (by kernel_rfl) rfl (by simp) ?_
 dsimp only[Tryz.f48]
 repeat' (first|(apply z05;(first|refine z94 (by decide) rfl ?_|refine zd6 (et:=3) (a:=c0) (v:=z1m 0) (py:=I .i64 c0) (q:=([]:List ((Int) × D))) (by kernel_rfl) z8k rfl rfl z8j rfl rfl rfl ?_|refine z0o ?_| (apply z09;(refine z02 z1p rfl rfl ?_))|(apply z0f;(refine z02 (z1i (ys:=cl.map fun x=>[z1m x]) rfl (z52 (g:=fun x=>[z1m x]) hc0i)) rfl rfl ?_))|(apply z0c;(refine z23 ?_))|(apply z0h;(refine z0b z2i ?_))|(apply z1q;(refine z0b z25 ?_))|(apply z0z;(refine z3s ?_))|(apply z1w;(refine zb3 (e:=3) rfl rfl rfl rfl rfl rfl rfl rfl rfl (by decide) ?_))))|(apply z08;(first|refine z0n ?_|apply z07))|(apply z06;(first|apply z0a|apply z00|apply z01|apply z2p))|(apply z2r;(first|(apply z15;refine z1o mix ?_)|refine z2s ?_| (apply z0r;(refine z0m z3t rfl rfl ?_))|(apply z3a;(first|refine z4o h90 ?_| refine z4o h91 ?_)))))
 all_goals try (exfalso;omega)
 refine z1s 25 1003 ?_
 refine z2z 7 0 1001 4 1 rfl rfl rfl rfl ?_
 refine z2z 7 1 1002 39 1 rfl rfl rfl rfl ?_
 refine z1a ?_
 refine z0e (z1y (fun q:Nat × List Int × List Int × Au=>⟨107,[(1,.ptr (0,1) 0),(2,.ptr (0,2) 0),(3,.d (ints cl)),(4,.d (z7a lv)),(5,.ref (0,20)),(6,.ref (0,1003)),(7,.ptr (0,7) 0),(8,I .i64 (q.1:Nat))],[(1,.box [.d (z4v P),.d (z7a F),.d (.slice (N.map z6l))]),(2,.box [.d (.lit z30),.d (.lit z30)]),(20,mpI q.2.1),(1003,.row 3 1 (q.2.2.1.map icc)),(7,.box [.ref (0,1001),.ref (0,1002)]),(1001,.row 4 1 (q.2.2.2.F.map boc)),(1002,.row 39 1 (q.2.2.2.A.map z4a))],H⟩)
  (fun q=>q.1≤F.length∧q.2.1.length≤F.length∧q.2.2.1.map (cAt cl)=q.2.1∧(∀ o∈q.2.2.1,0≤o∧o<F.length)∧q.2.2.2.F.length=q.1∧q.2.2.2.A.length=q.1∧exL fin edg F.length (F.length+1-q.1) q.1 q.2.1 q.2.2.2=some a) (fun q=>F.length+1-q.1) ?_ (0,[c0],[0],⟨[],[]⟩) ⟨Nat.zero_le _,by simp only[List.length_singleton];omega,by simp[cAt,hc0],fun o ho=>by rw[List.mem_singleton] at ho;subst ho;omega,rfl,rfl,hex⟩) rfl rfl
 clear hex
 rintro⟨q,ks,os,⟨F',A'⟩⟩ ⟨q1,q2,q3,q4,q5,q6,q7⟩ ih
 simp only at q1 q2 q3 q4 q5 q6 q7 ih ⊢
 have hol:os.length=ks.length:=by rw[← q3,List.length_map]
 by_cases hlt:q<os.length
 · obtain⟨s,hs⟩:∃ s,os[q]? =some s:=⟨_,List.getElem?_eq_getElem hlt⟩
   have hsr:=q4 s (List.mem_of_getElem? hs)
   obtain⟨s,rfl⟩:∃ k:Nat,s=k:=⟨s.toNat,by omega⟩
   obtain⟨r,hr,hr1,hr2,hr3⟩:=hrow s (by omega)
   have hr0:N[((s:Nat):Int).toNat]? =some r:=by rw[Int.toNat_natCast];exact hr
   obtain⟨b,hb⟩:∃ b,F[s]? =some b:=⟨_,List.getElem?_eq_getElem (by omega)⟩
   have hb0:F[((s:Nat):Int).toNat]? =some b:=by rw[Int.toNat_natCast];exact hb
   have hk:ks[q]? =some (cl.getD s 0):=by rw[← q3,List.getElem?_map,hs];simp[cAt]
   have e1:=hfin s (by omega)
   have e2:=hedg s (by omega)
   rw[hr1] at e2
   rw[zp7 hb] at e1
   rw[show F.length+1-q=(F.length+1-(q+1))+1 by omega,exL,hk] at q7
   simp only at q7
   rw[e1,e2] at q7
   clear hfin hedg e1 e2 h90 h91
   repeat' (first|(apply z05;(first|refine z0o ?_| (apply z09;(first|refine z02 (z2d (u:=z1m (s:Nat)) hs) rfl rfl ?_| refine z02 z1d rfl rfl ?_))|(apply z0d;(refine z02 z0i rfl rfl ?_))|(apply z0f;(refine z02 (z1v rfl (by omega) (by simp only[List.length_map];omega) rfl) rfl rfl ?_))|(apply z0t;(first|refine z02 (z1b rfl) rfl rfl ?_| refine z02 (z18 rfl) rfl rfl ?_))))|(apply z08;(first|refine z0n ?_|apply z07))|(apply z06;(first|apply z0a|apply z00|apply z04|apply z01|apply z2p|refine z0g (fun _=>?_) (fun _=>?_)| refine z0j ?_))|(apply z2r;(first|(apply z15;refine z1o mix ?_)|refine z2s ?_| (apply z0r;(first|refine z0m z1d rfl rfl ?_| refine z0m z1p rfl rfl ?_))|(apply z0s;(refine z0m z0i rfl rfl ?_))|(apply z14;(refine z0m (z1i (ys:=F.map boc) rfl (z52 (g:=boc) hb0)) rfl rfl ?_))|(apply z47;(refine z5y (g:=boc) (by first|exact rfl|exact⟨_,rfl,rfl,rfl⟩) rfl rfl b rfl rfl rfl rfl rfl rfl rfl (by decide) (by omega) ?_))|(apply z36;(refine z89 (by first|exact rfl|exact⟨_,rfl,rfl,rfl⟩) rfl rfl rfl rfl rfl ?_))|(apply z5j;(refine z8u rfl ?_)))))
   all_goals try (exfalso;first|omega|(simp only[List.length_map] at *;omega))
   refine z1s 45 1001 ?_
   refine z2e 10 1000 38 3 rfl rfl rfl ?_
   refine z1a ?_
   refine z0e (z1y (fun x:Nat × List Int × List Int × List Arc=>⟨107,[(1,.ptr (0,1) 0),(2,.ptr (0,2) 0),(3,.d (ints cl)),(4,.d (z7a lv)),(5,.ref (0,20)),(6,.ref (0,1003)),(7,.ptr (0,7) 0),(8,I .i64 (q:Nat)),(9,I .i64 (s:Nat)),(10,.ref (0,1000)),(48,.d (z4v P)),(49,I .i64 P.length),(50,I .i64 (x.1:Nat))],[(1,.box [.d (z4v P),.d (z7a F),.d (.slice (N.map z6l))]),(2,.box [.d (.lit z30),.d (.lit z30)]),(20,mpI x.2.1),(1003,.row 3 1 (x.2.2.1.map icc)),(7,.box [.ref (0,1001),.ref (0,1002)]),(1001,.row 4 1 ((F'++[b]).map boc)),(1002,.row 39 1 (A'.map z4a)),(1000,.row 38 3 (x.2.2.2.map z2l))],H⟩)
    (fun x=>x.1≤P.length∧x.2.1.length≤F.length+x.1∧x.2.2.2.length≤x.1∧x.2.2.1.map (cAt cl)=x.2.1∧(∀ o∈x.2.2.1,0≤o∧o<F.length)∧(za6 lv cl (zfp (P.drop x.1) (r.drop x.1))).foldl z5a (x.2.1,x.2.2.2)=(za6 lv cl (zfp P r)).foldl z5a (ks,[])) (fun x=>P.length-x.1) ?_ (0,ks,os,[]) ⟨Nat.zero_le _,q2,Nat.le_refl _,q3,q4,rfl⟩) rfl rfl
   rintro⟨x,ks2,os2,arcs⟩ ⟨x1,x2,x3,x4,x5,x6⟩ ihx
   simp only at x1 x2 x3 x4 x5 x6 ihx ⊢
   have hol2:os2.length=ks2.length:=by rw[← x4,List.length_map]
   by_cases hx:x<P.length
   · obtain⟨p,hp⟩:∃ p,P[x]? =some p:=⟨_,List.getElem?_eq_getElem hx⟩
     obtain⟨nn,hnn⟩:∃ n,r[x]? =some n:=⟨_,List.getElem?_eq_getElem (by omega)⟩
     have hnr:=hr3 nn (List.mem_of_getElem? hnn)
     have hpr0:=hPr p (List.mem_of_getElem? hp)
     have hpr:0≤p∧p≤1114111:=hpr0
     obtain⟨kk,hcn,hck⟩:=zo7 hcln hnr
     obtain⟨vb,hlv⟩:∃ b,lv[nn.toNat]? =some b:=⟨_,List.getElem?_eq_getElem (by omega)⟩
     have hen:=hend x hx
     rw[zse hp hnn,zp7 hlv,show cl.getD nn.toNat 0=kk from hck] at x6
     cases vb with
     | false =>
      rw[if_neg (by decide)] at x6
      have ihx':=ihx (x+1,ks2,os2,arcs) ⟨by simp only;omega,by simp only;omega,by simp only;omega,x4,x5,x6⟩ (by simp only;omega)
      clear ihx ih
      repeat' (first|(apply z05;(first|refine z0o ?_| (apply z09;(first|refine z02 z1d rfl rfl ?_| refine z02 z1p rfl rfl ?_))|(apply z0d;(refine z02 z0i rfl rfl ?_))|(apply z0f;(first|refine z02 (z1i (ys:=N.map z6l) rfl (z52 (g:=z6l) hr0)) rfl rfl ?_| refine z02 (z1i (ys:=P.map fun x=>[z3e x]) rfl (idx (g:=fun x=>[z3e x]) hp)) rfl rfl ?_| refine z02 (z1i (ys:=r.map fun x=>[z1m x]) rfl (idx (g:=fun x=>[z1m x]) hnn)) rfl rfl ?_| refine z02 (z1i (ys:=lv.map boc) rfl (z52 (g:=boc) hlv)) rfl rfl ?_))|(apply z0p;(refine z02 (z0q z1c) rfl rfl ?_))))|(apply z08;(first|refine z0n ?_|apply z07))|(apply z06;(first|apply z0a|apply z00|refine z1h ?_| apply z04|apply z01|refine z0g (fun _=>?_) (fun _=>?_)| refine z0j ?_)))
      all_goals try (exfalso;first|omega|(simp at *;done))
      all_goals exact z0e ihx' rfl rfl
     | true =>
      rw[if_pos rfl,List.foldl_cons,z5a] at x6
      simp only at x6
      have hal:=z8e ks2 kk
      have hln:=z8z arcs p (zdv P x) (z3l kk ks2:Nat)
      have hget:=z6v kk ks2 0
      by_cases hknown:kk∈ks2
      · rw[z5q,if_pos hknown] at x6
        rw[if_pos hknown,Nat.zero_add] at hget
        have hget1:(z4y (z38 0 ks2) kk).getD (.lit (.int .i64 0))=z1m (z3l kk ks2:Nat):=by rw[hget];rfl
        have hget2:(z4y (z38 0 ks2) kk).isSome=true:=by rw[hget];rfl
        have ihx':=ihx (x+1,ks2,os2,ext arcs p (zdv P x) (z3l kk ks2:Nat)) ⟨by simp only;omega,by simp only;omega,by simp only;omega,x4,x5,x6⟩ (by simp only;omega)
        clear ihx ih hal x6
        generalize z3l kk ks2=qv at *
        rcases zfn arcs with rfl|⟨m0,y,rfl⟩
        · rw[ext_nil] at ihx'
          have hxn:=fun (H:Hf) (hX:H 0 1000=some (.row 38 3 (([]:List Arc).map z2l)))=>zbl [] p (zdv P x) (qv:Nat) (by decide) hpr (fun y hy=>by cases hy) H hX
          generalize zdv P x=ep at *
          repeat' (first|(apply z05;(first|refine z0b (z4d (et:=3) (a:=kk) (q:=z38 0 ks2) (z0:=Value.int .i64 0) (py:=I .i64 kk) z8k (z2a (by kernel_rfl)) rfl rfl rfl z8j rfl hget1 hget2) ?_|refine z0o ?_| (apply z09;(first|refine z02 z1d rfl rfl ?_| refine z02 z1p rfl rfl ?_))|(apply z0d;(refine z02 z0i rfl rfl ?_))|(apply z0f;(first|refine z02 (z1i (ys:=N.map z6l) rfl (z52 (g:=z6l) hr0)) rfl rfl ?_| refine z02 (z1i (ys:=P.map fun x=>[z3e x]) rfl (idx (g:=fun x=>[z3e x]) hp)) rfl rfl ?_| refine z02 (z1i (ys:=r.map fun x=>[z1m x]) rfl (idx (g:=fun x=>[z1m x]) hnn)) rfl rfl ?_| refine z02 (z1i (ys:=lv.map boc) rfl (z52 (g:=boc) hlv)) rfl rfl ?_| refine z02 (z1i (ys:=cl.map fun x=>[z1m x]) rfl (z52 (g:=fun x=>[z1m x]) hcn)) rfl rfl ?_))|(apply z0p;(refine z02 (z0q z1c) rfl rfl ?_))|(apply z0u;(first|refine zf0 1000 (fun H hX=>hxn H (hX.trans rfl)) rfl rfl (by decide) rfl ?_|refine z1j hen ?_))))|(apply z08;(first|refine z0n ?_|apply z07))|(apply z06;(first|apply z0a|apply z00|refine z11 ?_| apply z04|apply z01|apply z03|refine z0g (fun _=>?_) (fun _=>?_)| refine z0j ?_)))
          all_goals try (exfalso;first|omega|(simp at *;done))
          all_goals skip
          all_goals refine z1s 98 1000 ?_
          all_goals exact z0e ihx' rfl rfl
        · rw[z3p] at ihx'
          have hml:m0.length≤1000000:=by simp only[List.length_append,List.length_singleton] at x3;omega
          by_cases hj:y.2.1+1=p∧y.2.2=((qv:Nat):Int)
          · rw[if_pos hj] at ihx'
            have hxo:=zjj m0 y p (zdv P x) (qv:Nat) hml hpr hj.1 hj.2
            rw[hj.2] at hxo
            generalize zdv P x=ep at *
            repeat' (first|(apply z05;(first|refine z0b (z4d (et:=3) (a:=kk) (q:=z38 0 ks2) (z0:=Value.int .i64 0) (py:=I .i64 kk) z8k (z2a (by kernel_rfl)) rfl rfl rfl z8j rfl hget1 hget2) ?_|refine z0o ?_| (apply z09;(first|refine z02 z1d rfl rfl ?_| refine z02 z1p rfl rfl ?_))|(apply z0d;(refine z02 z0i rfl rfl ?_))|(apply z0f;(first|refine z02 (z1i (ys:=N.map z6l) rfl (z52 (g:=z6l) hr0)) rfl rfl ?_| refine z02 (z1i (ys:=P.map fun x=>[z3e x]) rfl (idx (g:=fun x=>[z3e x]) hp)) rfl rfl ?_| refine z02 (z1i (ys:=r.map fun x=>[z1m x]) rfl (idx (g:=fun x=>[z1m x]) hnn)) rfl rfl ?_| refine z02 (z1i (ys:=lv.map boc) rfl (z52 (g:=boc) hlv)) rfl rfl ?_| refine z02 (z1i (ys:=cl.map fun x=>[z1m x]) rfl (z52 (g:=fun x=>[z1m x]) hcn)) rfl rfl ?_))|(apply z0p;(refine z02 (z0q z1c) rfl rfl ?_))|(apply z0u;(first|refine z8m hxo rfl rfl (by decide) ?_|refine z1j hen ?_))))|(apply z08;(first|refine z0n ?_|apply z07))|(apply z06;(first|apply z0a|apply z00|refine z11 ?_| apply z04|apply z01|apply z03|refine z0g (fun _=>?_) (fun _=>?_)| refine z0j ?_)))
            all_goals try (exfalso;first|omega|(simp at *;done))
            all_goals skip
            all_goals exact z0e ihx' rfl rfl
          · rw[if_neg hj] at ihx'
            have hxn:=fun (H:Hf) (hX:H 0 1000=some (.row 38 3 ((m0++[y]).map z2l)))=>zbl (m0++[y]) p (zdv P x) (qv:Nat) (by simp only[List.length_append,List.length_singleton] at x3 ⊢;omega) hpr (fun y' hy'=>by rw[z2o] at hy';cases hy';exact hj) H hX
            generalize zdv P x=ep at *
            repeat' (first|(apply z05;(first|refine z0b (z4d (et:=3) (a:=kk) (q:=z38 0 ks2) (z0:=Value.int .i64 0) (py:=I .i64 kk) z8k (z2a (by kernel_rfl)) rfl rfl rfl z8j rfl hget1 hget2) ?_|refine z0o ?_| (apply z09;(first|refine z02 z1d rfl rfl ?_| refine z02 z1p rfl rfl ?_))|(apply z0d;(refine z02 z0i rfl rfl ?_))|(apply z0f;(first|refine z02 (z1i (ys:=N.map z6l) rfl (z52 (g:=z6l) hr0)) rfl rfl ?_| refine z02 (z1i (ys:=P.map fun x=>[z3e x]) rfl (idx (g:=fun x=>[z3e x]) hp)) rfl rfl ?_| refine z02 (z1i (ys:=r.map fun x=>[z1m x]) rfl (idx (g:=fun x=>[z1m x]) hnn)) rfl rfl ?_| refine z02 (z1i (ys:=lv.map boc) rfl (z52 (g:=boc) hlv)) rfl rfl ?_| refine z02 (z1i (ys:=cl.map fun x=>[z1m x]) rfl (z52 (g:=fun x=>[z1m x]) hcn)) rfl rfl ?_))|(apply z0p;(refine z02 (z0q z1c) rfl rfl ?_))|(apply z0u;(first|refine zf0 1000 (fun H hX=>hxn H (hX.trans rfl)) rfl rfl (by decide) rfl ?_|refine z1j hen ?_))))|(apply z08;(first|refine z0n ?_|apply z07))|(apply z06;(first|apply z0a|apply z00|refine z11 ?_| apply z04|apply z01|apply z03|refine z0g (fun _=>?_) (fun _=>?_)| refine z0j ?_)))
            all_goals try (exfalso;first|omega|(simp at *;done))
            all_goals skip
            all_goals refine z1s 98 1000 ?_
            all_goals exact z0e ihx' rfl rfl
      · rw[z5q,if_neg hknown,z3o hknown] at x6
        rw[z3o hknown] at hln
        rw[if_neg hknown] at hget
        have hget1:(z4y (z38 0 ks2) kk).getD (.lit (.int .i64 0))=z1m 0:=by rw[hget];rfl
        have hget2:(z4y (z38 0 ks2) kk).isSome=false:=by rw[hget];rfl
        have hput:=z8b hknown
        have ihx':=ihx (x+1,ks2++[kk],os2++[nn],ext arcs p (zdv P x) (ks2.length:Nat)) ⟨by simp only;omega,by simp only[List.length_append,List.length_singleton];omega,by simp only;omega,by simp only[List.map_append,List.map_cons,List.map_nil,x4,hck],fun o ho=>by
         rcases List.mem_append.1 ho with ho|ho
         · exact x5 o ho
         · rw[List.mem_singleton] at ho;subst ho;exact hnr,x6⟩ (by simp only;omega)
        clear ihx ih hal x6
        dsimp only[mpI] at ihx'
        rw[← hput] at ihx'
        rw[← hol2] at ihx' hput
        rcases zfn arcs with rfl|⟨m0,y,rfl⟩
        · rw[ext_nil] at ihx'
          have hxn:=fun (H:Hf) (hX:H 0 1000=some (.row 38 3 (([]:List Arc).map z2l)))=>zbl [] p (zdv P x) (os2.length:Nat) (by decide) hpr (fun y hy=>by cases hy) H hX
          generalize zdv P x=ep at *
          repeat' (first|(apply z05;(first|refine z0b (z4d (et:=3) (a:=kk) (q:=z38 0 ks2) (z0:=Value.int .i64 0) (py:=I .i64 kk) z8k (z2a (by kernel_rfl)) rfl rfl rfl z8j rfl hget1 hget2) ?_|refine z3y (et:=3) (a:=kk) (v:=z1m (os2.length:Nat)) (py:=I .i64 kk) (q:=z38 0 ks2) (by kernel_rfl) z8k rfl rfl z8j rfl rfl rfl ?_|refine z0o ?_| (apply z09;(first|refine z02 z1d rfl rfl ?_| refine z02 z1p rfl rfl ?_))|(apply z0d;(refine z02 z0i rfl rfl ?_))|(apply z0f;(first|refine z02 (z1i (ys:=N.map z6l) rfl (z52 (g:=z6l) hr0)) rfl rfl ?_| refine z02 (z1i (ys:=P.map fun x=>[z3e x]) rfl (idx (g:=fun x=>[z3e x]) hp)) rfl rfl ?_| refine z02 (z1i (ys:=r.map fun x=>[z1m x]) rfl (idx (g:=fun x=>[z1m x]) hnn)) rfl rfl ?_| refine z02 (z1i (ys:=lv.map boc) rfl (z52 (g:=boc) hlv)) rfl rfl ?_| refine z02 (z1i (ys:=cl.map fun x=>[z1m x]) rfl (z52 (g:=fun x=>[z1m x]) hcn)) rfl rfl ?_))|(apply z0p;(refine z02 (z0q z1c) rfl rfl ?_))|(apply z0t;(first|refine z2q (g:=icc) nn rfl ?_| refine z02 (z18 rfl) rfl rfl ?_))|(apply z0u;(first|refine zf0 1000 (fun H hX=>hxn H (hX.trans rfl)) rfl rfl (by decide) rfl ?_|refine z1j hen ?_))|(apply z1w;(refine z29 rfl ?_))))|(apply z08;(first|refine z0n ?_|apply z07))|(apply z06;(first|apply z0a|apply z00|refine z1h ?_| refine z11 ?_| apply z04|apply z01|apply z03|refine z0g (fun _=>?_) (fun _=>?_)| refine z0j ?_)))
          all_goals try (exfalso;first|omega|(simp at *;done))
          all_goals refine z1s 90 1003 ?_
          all_goals refine z1s 98 1000 ?_
          all_goals exact z0e ihx' rfl rfl
        · rw[z3p] at ihx'
          have hml:m0.length≤1000000:=by simp only[List.length_append,List.length_singleton] at x3;omega
          by_cases hj:y.2.1+1=p∧y.2.2=((os2.length:Nat):Int)
          · rw[if_pos hj] at ihx'
            have hxo:=zjj m0 y p (zdv P x) (os2.length:Nat) hml hpr hj.1 hj.2
            rw[hj.2] at hxo
            generalize zdv P x=ep at *
            repeat' (first|(apply z05;(first|refine z0b (z4d (et:=3) (a:=kk) (q:=z38 0 ks2) (z0:=Value.int .i64 0) (py:=I .i64 kk) z8k (z2a (by kernel_rfl)) rfl rfl rfl z8j rfl hget1 hget2) ?_|refine z3y (et:=3) (a:=kk) (v:=z1m (os2.length:Nat)) (py:=I .i64 kk) (q:=z38 0 ks2) (by kernel_rfl) z8k rfl rfl z8j rfl rfl rfl ?_|refine z0o ?_| (apply z09;(first|refine z02 z1d rfl rfl ?_| refine z02 z1p rfl rfl ?_))|(apply z0d;(refine z02 z0i rfl rfl ?_))|(apply z0f;(first|refine z02 (z1i (ys:=N.map z6l) rfl (z52 (g:=z6l) hr0)) rfl rfl ?_| refine z02 (z1i (ys:=P.map fun x=>[z3e x]) rfl (idx (g:=fun x=>[z3e x]) hp)) rfl rfl ?_| refine z02 (z1i (ys:=r.map fun x=>[z1m x]) rfl (idx (g:=fun x=>[z1m x]) hnn)) rfl rfl ?_| refine z02 (z1i (ys:=lv.map boc) rfl (z52 (g:=boc) hlv)) rfl rfl ?_| refine z02 (z1i (ys:=cl.map fun x=>[z1m x]) rfl (z52 (g:=fun x=>[z1m x]) hcn)) rfl rfl ?_))|(apply z0p;(refine z02 (z0q z1c) rfl rfl ?_))|(apply z0t;(first|refine z2q (g:=icc) nn rfl ?_| refine z02 (z18 rfl) rfl rfl ?_))|(apply z0u;(first|refine z8m hxo rfl rfl (by decide) ?_|refine z1j hen ?_))|(apply z1w;(refine z29 rfl ?_))))|(apply z08;(first|refine z0n ?_|apply z07))|(apply z06;(first|apply z0a|apply z00|refine z1h ?_| refine z11 ?_| apply z04|apply z01|apply z03|refine z0g (fun _=>?_) (fun _=>?_)| refine z0j ?_)))
            all_goals try (exfalso;first|omega|(simp at *;done))
            all_goals refine z1s 90 1003 ?_
            all_goals exact z0e ihx' rfl rfl
          · rw[if_neg hj] at ihx'
            have hxn:=fun (H:Hf) (hX:H 0 1000=some (.row 38 3 ((m0++[y]).map z2l)))=>zbl (m0++[y]) p (zdv P x) (os2.length:Nat) (by simp only[List.length_append,List.length_singleton] at x3 ⊢;omega) hpr (fun y' hy'=>by rw[z2o] at hy';cases hy';exact hj) H hX
            generalize zdv P x=ep at *
            repeat' (first|(apply z05;(first|refine z0b (z4d (et:=3) (a:=kk) (q:=z38 0 ks2) (z0:=Value.int .i64 0) (py:=I .i64 kk) z8k (z2a (by kernel_rfl)) rfl rfl rfl z8j rfl hget1 hget2) ?_|refine z3y (et:=3) (a:=kk) (v:=z1m (os2.length:Nat)) (py:=I .i64 kk) (q:=z38 0 ks2) (by kernel_rfl) z8k rfl rfl z8j rfl rfl rfl ?_|refine z0o ?_| (apply z09;(first|refine z02 z1d rfl rfl ?_| refine z02 z1p rfl rfl ?_))|(apply z0d;(refine z02 z0i rfl rfl ?_))|(apply z0f;(first|refine z02 (z1i (ys:=N.map z6l) rfl (z52 (g:=z6l) hr0)) rfl rfl ?_| refine z02 (z1i (ys:=P.map fun x=>[z3e x]) rfl (idx (g:=fun x=>[z3e x]) hp)) rfl rfl ?_| refine z02 (z1i (ys:=r.map fun x=>[z1m x]) rfl (idx (g:=fun x=>[z1m x]) hnn)) rfl rfl ?_| refine z02 (z1i (ys:=lv.map boc) rfl (z52 (g:=boc) hlv)) rfl rfl ?_| refine z02 (z1i (ys:=cl.map fun x=>[z1m x]) rfl (z52 (g:=fun x=>[z1m x]) hcn)) rfl rfl ?_))|(apply z0p;(refine z02 (z0q z1c) rfl rfl ?_))|(apply z0t;(first|refine z2q (g:=icc) nn rfl ?_| refine z02 (z18 rfl) rfl rfl ?_))|(apply z0u;(first|refine zf0 1000 (fun H hX=>hxn H (hX.trans rfl)) rfl rfl (by decide) rfl ?_|refine z1j hen ?_))|(apply z1w;(refine z29 rfl ?_))))|(apply z08;(first|refine z0n ?_|apply z07))|(apply z06;(first|apply z0a|apply z00|refine z1h ?_| refine z11 ?_| apply z04|apply z01|apply z03|refine z0g (fun _=>?_) (fun _=>?_)| refine z0j ?_)))
            all_goals try (exfalso;first|omega|(simp at *;done))
            all_goals refine z1s 90 1003 ?_
            all_goals refine z1s 98 1000 ?_
            all_goals exact z0e ihx' rfl rfl
   · rw[show P.drop x=[] from List.drop_eq_nil_iff.2 (by omega),z90,za6,List.foldl_nil] at x6
     rw[← x6] at q7
     simp only at q7
     have hle:ks2.length≤F.length:=by
      refine Decidable.byContradiction fun hn=>?_
      rw[if_pos (by omega)] at q7;cases q7
     rw[if_neg (by omega)] at q7
     have ih':=ih (q+1,ks2,os2,⟨F'++[b],A'++[arcs]⟩) ⟨by simp only;omega,hle,x4,x5,by simp[q5],by simp[q6],q7⟩ (by simp only;omega)
     clear ih ihx
     refine z1g 1000 rfl ?_
     repeat' (first|(apply z05;(first|refine z0o ?_| (apply z09;(refine z02 z1d rfl rfl ?_))|(apply z0d;(refine z02 z0i rfl rfl ?_))|(apply z0p;(refine z02 (z0q z1c) rfl rfl ?_))|(apply z0t;(refine z2q (g:=z4a) arcs rfl ?_))|(apply z0c;(refine z23 ?_))|(apply z1w;(refine z29 rfl ?_))))|(apply z08;(first|refine z0n ?_|apply z07))|(apply z06;(first|apply z0a|apply z00|apply z04|apply z01|apply z03|refine z0g (fun _=>?_) (fun _=>?_)| refine z0j ?_)))
     all_goals try (exfalso;omega)
     all_goals refine z1s 104 1002 ?_
     all_goals exact z0e ih' rfl rfl
 · obtain⟨n,hn2⟩:∃ n,F.length+1-q=n+1:=⟨F.length-q,by omega⟩
   rw[hn2,exL,List.getElem?_eq_none (by omega)] at q7
   simp only[Option.some.injEq] at q7
   subst q7
   clear ih
   refine z1g 1001 rfl ?_
   refine z1g 1002 rfl ?_
   repeat' (first|(apply z05;(first|refine z0o ?_| (apply z09;(refine z02 z1z rfl rfl ?_))|(apply z0t;(refine z02 (z18 rfl) rfl rfl ?_))|(apply z0c;(refine z23 ?_))))|(apply z08;(first|refine z0n ?_|apply z07))|(apply z06;(first|apply z0a|apply z00|apply z04|apply z01|refine z0g (fun _=>?_) (fun _=>?_)| refine z0j ?_)))
   all_goals try (exfalso;omega)
   all_goals exact z0l Tryz.func48 _ (z3v rfl rfl rfl rfl rfl rfl) ⟨rfl,rfl⟩
end Go.Proofs.YthdfkabdoidjfaaGreatDoor
namespace Go.Proofs.YthdfkabdoidjfaaGreatDoor
open Go.Ab Go.Ax Go.Rx
set_option maxHeartbeats 20000000
set_option maxRecDepth 100000
attribute [local irreducible] Run Ops Op1 z2b Val Tr z0v z2c NF Rel z3w z3x
theorem zzf {n:Nat} (cl:List Int) (hl:cl.length=n) (q:Nat) (hq:q<n):stQ cl (cl.getD q 0)<n∧cl.getD (stQ cl (cl.getD q 0)) 0=cl.getD q 0:=by
 obtain⟨r,hr⟩:=z86 (cl:=cl) (k:=cl.getD q 0) (j:=cl.length) (s:=q) (by omega) rfl
 have h:=z5f hr
 rw[stQ,hr]
 exact⟨by simpa[hl] using h.1,h.2⟩
theorem zxj (a b:Au) (op:Int) (ha:AuW a) (hb:AuW b) (hna:a.A.length≤20) (hnb:b.A.length≤20) (hla:∀ l∈a.A,l.length≤12) (hlb:∀ l∈b.A,l.length≤12) :
 ∃ t m,z0v Tryz.prog 46 [.d (auD a),.d (auD b),I .i64 op] (.d (zvm t))∧z0v Tryz.prog 48 [.d (zvm t)] (.d (auD m))∧Nrm m∧AuW m∧m.F.length≤(a.F.length+1)*(b.F.length+1)∧∀ w,m.acc 0 w=(vld w&&zv8 (a.acc 0 w) (b.acc 0 w) op):=by
 have hin:∀ (c:Au),AuW c→(∀ l∈c.A,l.length≤12)→∀ r∈c.A.map z4j,r.length≤12∧∀ x∈r,0≤x.1∧x.1≤1114111∧0≤x.2∧x.2≤1114111:=fun c hc hl r hr=>by
  obtain⟨l,hl2,rfl⟩:=List.mem_map.1 hr
  refine⟨by rw[z4j,List.length_map];exact hl l hl2,fun x hx=>?_⟩
  obtain⟨y,hy,rfl⟩:=List.mem_map.1 hx
  have:=(hc.arc l hl2).2 y hy
  simp only;omega
 have hrs:zbc [a,b]=a.A.map z4j++b.A.map z4j:=by simp[zbc]
 have hrr:∀ r∈zbc [a,b],r.length≤12∧∀ x∈r,0≤x.1∧x.1≤1114111∧0≤x.2∧x.2≤1114111:=fun r hr=>by
  rw[hrs,List.mem_append] at hr
  rcases hr with hr|hr
  · exact hin a ha hla r hr
  · exact hin b hb hlb r hr
 obtain⟨hpts,hmem⟩:=zrt (L:=zbc [a,b]) fun r hr=>(hrr r hr).2
 have hpl:(z8h (zbc [a,b])).length≤1000:=by
  have h1:=zl2 (zbc [a,b]) [0] 12 fun r hr=>(hrr r hr).1
  have h2:(zbc [a,b]).length=a.A.length+b.A.length:=by rw[hrs];simp
  rw[h2] at h1
  rw[z8h]
  simp only[List.length_singleton] at h1
  omega
 have hap:∀ l∈a.A,∀ x∈l,x.1∈z8h (zbc [a,b])∧(x.2.1+1≤1114111→x.2.1+1∈z8h (zbc [a,b])):=fun l hl x hx =>
  hmem (z4j l) (by rw[hrs];exact List.mem_append_left _ (List.mem_map_of_mem hl)) (x.1,x.2.1) (by rw[z4j];exact List.mem_map.2 ⟨x,hx,rfl⟩)
 have hbp:∀ l∈b.A,∀ x∈l,x.1∈z8h (zbc [a,b])∧(x.2.1+1≤1114111→x.2.1+1∈z8h (zbc [a,b])):=fun l hl x hx =>
  hmem (z4j l) (by rw[hrs];exact List.mem_append_right _ (List.mem_map_of_mem hl)) (x.1,x.2.1) (by rw[z4j];exact List.mem_map.2 ⟨x,hx,rfl⟩)
 obtain⟨t,ht,htP,hT⟩:=zn0 ha hb (dec:=fun p q=>zv8 p q op) hpts hap hbp
 have hfa:=ha.len
 have hfb:=hb.len
 have hsm:(a.F.length+1)*(b.F.length+1)≤21*21:=Nat.mul_le_mul (by omega) (by omega)
 have h46:=zxo a b op ha hb (by omega) (by omega) (fun l hl=>by have:=hla l hl;omega) (fun l hl=>by have:=hlb l hl;omega) hpl ((a.F.length+1)*(b.F.length+1)+1) (by omega) t ht
 have hW:=hT.w
 have hfew:=hT.few
 obtain⟨cl,h1,h2,h3,h4⟩:=ztx hW
 have hlv:=(zfr hW).2
 have hst:=fun i hi=>zzf cl h2.len i hi
 obtain⟨m,m1,m2,m3,m4,m5⟩:=zog hW h4 h3 hlv hst
 refine⟨t,m,h46,zmg t hW (by omega) (by rw[htP];exact hpl) cl h1 h2.len _ _ (fun s hs=>?_) (fun s hs=>?_) m m1,m2,m3,Nat.le_trans m4 hfew,fun w=>by rw[m5,hT.acc]⟩
 · obtain⟨s1,s2⟩:=hst s hs
   exact(h4 _ _ s1 hs).1 s2 []
 · obtain⟨s1,s2⟩:=hst s hs
   exact zu6 hW h4 hlv s1 hs s2
theorem zfb (a:Au) (hf:zei a) (h:vAu a≠0):z0v Tryz.prog 22 [.d (auD a)] (.tup [.d (auD ⟨[],[]⟩),I .i64 1]):=by
 refine z1e fun H=>?_
 have hv:=zlo a hf
 generalize vAu a=v at *
 obtain⟨F,A⟩:=a
 refine z0k Tryz.func22 (by kernel_rfl) rfl (by simp) ?_
 dsimp only[Tryz.f22]
 repeat' (first|(apply z05;(first|refine z0o ?_| (apply z09;(refine z02 z3t rfl rfl ?_))|(apply z0u;(refine z1j hv ?_))|(apply z0c;(refine z23 ?_))|(apply z0h;(refine z0b z2i ?_))|(apply z1q;(refine z0b z25 ?_))|(apply z0z;(refine z3s ?_))))|(apply z08;(first|refine z0n ?_|apply z07))|(apply z06;(first|apply z0a|apply z00|apply z04|apply z2p|refine z3z rfl (fun _=>?_) (fun _=>?_)))|(apply z2r;((apply z0r;(refine z0m z3t rfl rfl ?_)))))
 all_goals try (exfalso;first|omega|(simp at *;done)|(simp at *;omega))
 all_goals exact z0l Tryz.func22 _ (z0x rfl rfl rfl rfl rfl rfl rfl) ⟨rfl,rfl⟩
theorem zj9 (a:Au) (hf:zei a) (h:vAu a=0) (hW:AuW a) (hna:a.A.length≤20) (hla:∀ l∈a.A,l.length≤12) :
 ∃ m,z0v Tryz.prog 22 [.d (auD a)] (.tup [.d (auD m),I .i64 0])∧Nrm m∧∀ w,m.acc 0 w=a.acc 0 w:=by
 obtain⟨t,m,h46,h48,m1,_,_,m2⟩:=zxj a zcp 2 hW znf hna (by decide) hla (by decide)
 refine⟨m,?_,m1,fun w=>?_⟩
 · refine z1e fun H=>?_
   have hv:=zlo a hf
   rw[h] at hv
   have hno:=y1k
   obtain⟨F,A⟩:=a
   refine z0k Tryz.func22 (by kernel_rfl) rfl (by simp) ?_
   dsimp only[Tryz.f22]
   repeat' (first|(apply z05;(first|refine z0o ?_| (apply z09;(refine z02 z3t rfl rfl ?_))|(apply z0u;(refine z1j hv ?_))|(apply z0h;(refine z0b z2i ?_))|(apply z1q;(refine z0b z25 ?_))))|(apply z08;(first|refine z0n ?_|apply z07))|(apply z06;(first|apply z0a|apply z00|refine z11 ?_| apply z04|apply z2p))|(apply z2r;(first|(apply z15;refine z1o mix ?_)|refine z2s ?_| (apply z0r;(refine z0m z3t rfl rfl ?_))|(apply z3a;(first|refine z4o hno ?_| refine z4o h46 ?_| refine z4o h48 ?_))|(apply z36;(refine z5b (by first|exact rfl|exact⟨_,rfl,rfl,rfl⟩) rfl rfl rfl rfl rfl rfl ?_)))))
   all_goals try (exfalso;first|omega|(simp at *;done)|(simp at *;omega))
   all_goals exact z0l Tryz.func22 _ (z0x rfl rfl rfl rfl rfl rfl rfl) ⟨rfl,rfl⟩
 · rw[m2,z9r,zv8,if_neg (by decide),if_pos rfl,Bool.or_false]
   cases hx:a.acc 0 w with
   | false=>rw[Bool.and_false]
   | true=>rw[zq3 hW w 0 hx];rfl
end Go.Proofs.YthdfkabdoidjfaaGreatDoor
