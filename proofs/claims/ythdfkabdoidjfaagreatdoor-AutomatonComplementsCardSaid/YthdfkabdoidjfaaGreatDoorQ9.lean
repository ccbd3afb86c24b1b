/- A part of the proof: R8 to R10. -/
import Derived.Test.YthdfkabdoidjfaaGreatDoorQ7
import Derived.Test.YthdfkabdoidjfaaGreatDoorQ2
import Derived.Test.YthdfkabdoidjfaaGreatDoorQy
import Derived.Test.YthdfkabdoidjfaaGreatDoorQ3
set_option linter.all false
namespace Go.Proofs.YthdfkabdoidjfaaGreatDoor
open Go.Ab Go.Ax Go.Rx
set_option maxHeartbeats 20000000
set_option maxRecDepth 100000
attribute [local irreducible] Run Ops Op1 z2i Val Tr z0z z27 NF Rel z3r z3s
abbrev f01 (b:Bool):Int:=if b=true then 1 else 0
theorem zng (t:Tbl) (hW:z9a t) (hn:t.F.length≤1000000) (hP:t.P.length≤1000) (res:List Int) (hres:t.clsT (t.F.length+1) t.c0=some res):z0z Tryz.prog 90 [.d (zw0 t)] (.d (ints res)):=by
 refine z1l fun H=>?_
 have hal:=fun c hc i k hi hk=>zyz t hW hn hP c hc i k hi hk
 have hsp:=fun c d hc hd=>zyg t t.F.length hn c d hc hd
 have hstep:=fun (c:List Int) (q:Nat) (s:List Int × Int) (hs:DS t c q s) (hq:q<t.F.length)=>hs.step hW hq
 have hc0:t.c0=t.F.map f01:=rfl
 rw[hc0] at hres
 have hc0l:(t.F.map f01).length=t.F.length:=zA4 _
 obtain⟨P,F,N⟩:=t
 simp only at hn hP hal hsp hc0l hres hstep
 refine z0m Tryz.func90 (by kernel_rfl) rfl (by simp) ?_
 dsimp only[Tryz.f90]
 repeat' (first|(apply z07;(first|refine z0p ?_| (apply z0a;(refine z02 z1m rfl rfl ?_))|(apply z0e;(refine z02 z0s rfl rfl ?_))|(apply z14;(refine z02 (z1j rfl) rfl rfl ?_))|(apply z1y;(refine z0b z2e ?_))|(apply zeo;(refine zek (xs:=(List.replicate F.length (0:Int)).map icc) rfl rfl (Int.natCast_nonneg _) (by show ((F.length:Nat):Int)≤_;omega) rfl rfl rfl (by decide) (by simp) ?_))))|(apply z08;(first|refine z0o ?_|apply z09))|(apply z05;(first|apply z06|apply z00|apply z01)))
 all_goals try (exfalso;omega)
 refine z2a 13 1000 ?_
 refine z16 ?_
 refine z0c (z1u (fun q:Nat=>⟨81,[(1,.ptr (0,1) 0),(3,.ref (0,1000)),(15,.d (z7s F)),(16,I .i64 F.length),(17,I .i64 (q:Nat))],[(1,.box [.d (z5g P),.d (z7s F),.d (.slice (N.map z73))]),(1000,.row 3 1 ((((F.map f01).take q)++List.replicate (F.length-q) (0:Int)).map icc))],H⟩) (fun q=>q≤F.length) (fun q=>F.length-q) ?_ 0 (zAf _)) rfl rfl
 rintro q q1 ih
 by_cases hq:q<F.length
 · obtain⟨b,hb⟩:∃ b,F[q]? =some b:=⟨_,zA0 hq⟩
   have ih':=ih (q+1) (by omega) (by omega)
   have hfb:(F.map f01)[q]? =some (f01 b):=by rw[zAd,hb];rfl
   rw[z5s hfb] at ih'
   have hrs:=zaj hq
   have htl:((F.map f01).take q).length=q:=by rw[zAm];omega
   generalize (F.map f01).take q=C at *
   have hget:(C++List.replicate (F.length-q) 0)[((q:Nat):Int).toNat]? =some 0:=by
    rw[hrs,zA9,zAg (by omega),htl,Nat.sub_self];rfl
   have hset:∀ v,(C++List.replicate (F.length-q) 0).set ((q:Nat):Int).toNat v=C++[v]++List.replicate (F.length-(q+1)) 0:=fun v=>by
    rw[hrs,zA9,z9q htl hq,show F.length-(q+1)=F.length-q-1 by omega];simp
   have hno:C++List.replicate (F.length-q) 0=C++[0]++List.replicate (F.length-(q+1)) 0:=by
    rw[hrs,show F.length-(q+1)=F.length-q-1 by omega];simp
   clear ih
   cases b with
   | true =>
    have hs1:=hset 1
    repeat' (first|(apply z07;(first|refine z0p ?_| (apply z0a;(refine z02 z22 rfl rfl ?_))|(apply z0i;(first|refine z02 (z0v (ys:=F.map boc) rfl (idx (g:=boc) hb)) rfl rfl ?_| refine z02 (z2d rfl (by simp only[zA4,zAa,zAr,htl];omega)) rfl rfl ?_))|(apply z0n;(refine z02 (z0r z0y) rfl rfl ?_))|(apply z0d;(refine z4g (1:Int) hget hs1 ?_))))|(apply z08;(first|refine z0o ?_|apply z09))|(apply z05;(first|apply z06|apply z00|refine z1d ?_| apply z04|apply z01|apply z03|refine z0f (fun _=>?_) (fun _=>?_)| refine z0h ?_)))
    all_goals exact zD26
   | false =>
    rw[show f01 false=0 from rfl,← hno] at ih'
    repeat' (first|(apply z07;(first|refine z0p ?_| (apply z0a;(refine z02 z22 rfl rfl ?_))|(apply z0i;(refine z02 (z0v (ys:=F.map boc) rfl (idx (g:=boc) hb)) rfl rfl ?_))|(apply z0n;(refine z02 (z0r z0y) rfl rfl ?_))))|(apply z08;(first|refine z0o ?_|apply z09))|(apply z05;(first|apply z06|apply z00|refine z0w ?_| apply z04|apply z01|apply z03|refine z0f (fun _=>?_) (fun _=>?_)| refine z0h ?_)))
    all_goals exact zD26
 obtain rfl:q=F.length:=by omega
 clear ih
 rw[Nat.sub_self,List.replicate_zero,List.append_nil,show (F.map f01).take F.length=F.map f01 by rw[← hc0l,List.take_length]]
 refine z1r 1000 rfl ?_
 repeat' (first|(apply z07;(refine z0p ?_))|(apply z08;(first|refine z0o ?_|apply z09))|(apply z05;(first|apply z06|apply z00|apply z04|apply z01|refine z0f (fun _=>?_) (fun _=>?_)| refine z0h ?_)))
 all_goals try (exfalso;omega)
 refine z16 ?_
 refine z0c (z1u (fun q:Nat × List Int=>⟨81,[(1,.ptr (0,1) 0),(3,.d (ints q.2))],[(1,.box [.d (z5g P),.d (z7s F),.d (.slice (N.map z73))])],H⟩) (fun q=>q.2.length=F.length∧(⟨P,F,N⟩:Tbl).clsT q.1 q.2=some res) (fun q=>q.1) ?_ (F.length+1,F.map f01) ⟨hc0l,hres⟩) rfl rfl
 clear hres
 rintro⟨f,c⟩ ⟨hcl,hres⟩ ih
 simp only at hcl hres ih ⊢
 cases f with
 | zero=>rw[Tbl.clsT] at hres;cases hres
 | succ f =>
 rw[Tbl.clsT] at hres
 simp only at hres
 have hR:=zin hW c F.length 0 ([],0) (by simp only;omega) ⟨rfl,by simp,fun i hi=>by omega,fun i k hi=>by omega⟩
 simp only at hR
 obtain⟨R,hRe⟩:∃ R,(⟨P,F,N⟩:Tbl).dAll c F.length 0 ([],0)=R:=⟨_,rfl⟩
 rw[hRe] at hres hR
 repeat' (first|(apply z07;(first|refine z0p ?_| (apply z14;(refine z02 (z1j rfl) rfl rfl ?_))|(apply zeo;(refine zek (xs:=(List.replicate F.length (0:Int)).map icc) rfl rfl (Int.natCast_nonneg _) (by first|omega|(simp only[zA4];omega)) rfl rfl rfl (by decide) (by simp[hcl]) ?_))))|(apply z08;(first|refine z0o ?_|apply z09))|(apply z05;(first|apply z06|apply z00|apply z01)))
 all_goals try (exfalso;omega)
 refine z2a 29 1001 ?_
 refine z16 ?_
 refine z0c (z1u (fun q:Nat × List Int × Int=>⟨81,[(1,.ptr (0,1) 0),(3,.d (ints c)),(6,.ref (0,1001)),(7,I .i64 q.2.2),(31,I .i64 c.length),(32,I .i64 (q.1:Nat))],[(1,.box [.d (z5g P),.d (z7s F),.d (.slice (N.map z73))]),(1001,.row 3 1 ((q.2.1++List.replicate (F.length-q.1) (0:Int)).map icc))],H⟩) (fun q=>q.1≤F.length∧DS ⟨P,F,N⟩ c q.1 q.2∧(⟨P,F,N⟩:Tbl).dAll c (F.length-q.1) q.1 q.2=R) (fun q=>F.length-q.1) ?_ (0,[],0) ⟨zAf _,⟨rfl,by simp,fun i hi=>by omega,fun i k hi=>by omega⟩,hRe⟩) rfl rfl
 rintro⟨i,ds,m⟩ ⟨i1,i2,i3⟩ ihi
 simp only at i1 i2 i3 ihi ⊢
 have hdl:ds.length=i:=i2.len
 have hm:=i2.cnt
 simp only at hm
 by_cases hi:i<F.length
 · have hnext:=hstep c i (ds,m) i2 hi
   rw[show F.length-i=(F.length-(i+1))+1 by omega,Tbl.dAll] at i3
   have hrg:=i2.rng
   simp only at hrg
   obtain⟨o,ho⟩:∃ o,zo9 ((⟨P,F,N⟩:Tbl).alk c i) i 0=o:=⟨_,rfl⟩
   rw[Tbl.dOne,ho] at i3 hnext
   have hrs:=zaj hi
   have hgetv:∀ v:Int,(ds++v::List.replicate (F.length-i-1) 0)[((i:Nat):Int).toNat]? =some v:=fun v=>by
    rw[zA9,zAg (by omega),hdl,Nat.sub_self];rfl
   have hsetv:∀ v w:Int,(ds++v::List.replicate (F.length-i-1) 0).set ((i:Nat):Int).toNat w=ds++w::List.replicate (F.length-i-1) 0:=fun v w=>by
    rw[zA9,z9q hdl hi]
   have hlen:∀ v:Int,(ds++v::List.replicate (F.length-i-1) 0).length=F.length:=fun v=>by
    simp only[zAa,zAk,zAr,hdl];omega
   rw[hrs]
   have g0:=hgetv 0
   have s0:=hsetv 0 (-1)
   have l0:=hlen 0
   clear ih
   repeat' (first|(apply z07;(first|refine z0p ?_| (apply z0a;(refine z02 z2j rfl rfl ?_))|(apply z0i;(refine z02 (z2d rfl (by simp only[zA4,l0];omega)) rfl rfl ?_))|(apply z0d;(refine z4g (-1:Int) g0 s0 ?_))))|(apply z08;(first|refine z0o ?_|apply z09))|(apply z05;(first|apply z06|apply z00|apply z04|apply z01|refine z0f (fun _=>?_) (fun _=>?_)| refine z0h ?_)))
   all_goals try (exfalso;omega)
   refine z16 ?_
   refine z0c (z1u (fun q:Nat × Int=>⟨81,[(1,.ptr (0,1) 0),(3,.d (ints c)),(6,.ref (0,1001)),(7,I .i64 m),(8,I .i64 (i:Nat)),(9,I .i64 (q.1:Nat)),(31,I .i64 c.length),(32,I .i64 (i:Nat))],[(1,.box [.d (z5g P),.d (z7s F),.d (.slice (N.map z73))]),(1001,.row 3 1 ((ds++q.2::List.replicate (F.length-i-1) (0:Int)).map icc))],H⟩)
    (fun q=>q.1≤i∧((q.2=-1∧zo9 ((⟨P,F,N⟩:Tbl).alk c i) (i-q.1) q.1=o)∨(0≤q.2∧∃ k,o=some k∧q.2=ds.getD k 0))) (fun q=>i-q.1) ?_ (0,-1) ⟨zAf _,.inl ⟨rfl,ho⟩⟩) rfl rfl
   rintro⟨k,v⟩ ⟨k1,k2⟩ ihk
   simp only at k1 k2 ihk ⊢
   have gv:=hgetv v
   have lv:=hlen v
   rcases k2 with ⟨rfl,k2⟩|⟨hv,k0,hk0,hvk⟩
   · by_cases hk:k<i
     · rw[show i-k=(i-(k+1))+1 by omega,zo9] at k2
       have hak:=hal c hcl i k hi (by omega)
       obtain⟨dk,hdk⟩:∃ x,ds[k]? =some x:=⟨_,zA0 (by omega)⟩
       have hdkr:=hrg k (by omega)
       rw[z2s hdk] at hdkr
       have gk:(ds++(-1)::List.replicate (F.length-i-1) 0)[((k:Nat):Int).toNat]? =some dk:=by
        rw[zA9,zAb (by omega)];exact hdk
       have sk:=hsetv (-1) dk
       cases hb:(⟨P,F,N⟩:Tbl).alk c i k with
       | true =>
        rw[hb] at k2 hak
        rw[zAz rfl] at k2
        have ih':=ihk (k+1,dk) ⟨by simp only;omega,.inr ⟨hdkr.1,k,k2.symm,(z2s hdk).symm⟩⟩ (by simp only;omega)
        clear ihk ihi
        repeat' (first|(apply z07;(first|refine z0p ?_| (apply z0a;(first|refine z02 (z11 (u:=z1x (-1)) gv) rfl rfl ?_| refine z02 (z11 (u:=z1x dk) gk) rfl rfl ?_| refine z02 z2j rfl rfl ?_))|(apply z0i;(refine z02 (z2d rfl (by simp only[zA4,lv];omega)) rfl rfl ?_))|(apply z0n;(refine z02 (z0r z0y) rfl rfl ?_))|(apply z0u;(refine z1o hak ?_))|(apply z0d;(refine z4g dk gv sk ?_))))|(apply z08;(first|refine z0o ?_|apply z09|refine z1w ?_| refine z2m (fun _=>?_) (fun _=>?_)))|(apply z05;(first|apply z06|apply z00|refine z1d ?_| refine z0w ?_| apply z04|apply z01|apply z03|refine z0h ?_)))
        all_goals exact zD6
       | false =>
        rw[hb] at k2 hak
        rw[zAy (by decide)] at k2
        have ih':=ihk (k+1,-1) ⟨by simp only;omega,.inl ⟨rfl,k2⟩⟩ (by simp only;omega)
        clear ihk ihi
        repeat' (first|(apply z07;(first|refine z0p ?_| (apply z0a;(first|refine z02 (z11 (u:=z1x (-1)) gv) rfl rfl ?_| refine z02 z2j rfl rfl ?_))|(apply z0i;(refine z02 (z2d rfl (by simp only[zA4,lv];omega)) rfl rfl ?_))|(apply z0n;(refine z02 (z0r z0y) rfl rfl ?_))|(apply z0u;(refine z1o hak ?_))))|(apply z08;(first|refine z0o ?_|apply z09|refine z1w ?_| refine z2m (fun _=>?_) (fun _=>?_)))|(apply z05;(first|apply z06|apply z00|refine z1d ?_| refine z0w ?_| apply z04|apply z01|apply z03|refine z0h ?_)))
        all_goals exact zD6
     · rw[show i-k=0 by omega,zo9] at k2
       subst k2
       simp only at i3 hnext
       have sm:=hsetv (-1) m
       have ih':=ihi (i+1,ds++[m],m+1) ⟨by simp only;omega,hnext,i3⟩ (by simp only;omega)
       simp only at ih'
       rw[show (ds++[m])++List.replicate (F.length-(i+1)) (0:Int)=ds++m::List.replicate (F.length-i-1) 0 by rw[show F.length-(i+1)=F.length-i-1 by omega];simp] at ih'
       clear ihk ihi
       repeat' (first|(apply z07;(first|refine z0p ?_| (apply z0a;(first|refine z02 (z11 (u:=z1x (-1)) gv) rfl rfl ?_| refine z02 z2j rfl rfl ?_))|(apply z0i;(refine z02 (z2d rfl (by simp only[zA4,lv];omega)) rfl rfl ?_))|(apply z0n;(refine z02 (z0r z0y) rfl rfl ?_))|(apply z0d;(refine z4g m gv sm ?_))))|(apply z08;(first|refine z0o ?_|apply z09|refine z1w ?_| refine z2m (fun _=>?_) (fun _=>?_)))|(apply z05;(first|apply z06|apply z00|refine z1d ?_| refine z0w ?_| apply z04|apply z01|apply z03|refine z0h ?_)))
       all_goals exact zD6
   · subst hk0
     simp only at i3 hnext
     rw[← hvk] at i3 hnext
     have ih':=ihi (i+1,ds++[v],m) ⟨by simp only;omega,hnext,i3⟩ (by simp only;omega)
     simp only at ih'
     rw[show (ds++[v])++List.replicate (F.length-(i+1)) (0:Int)=ds++v::List.replicate (F.length-i-1) 0 by rw[show F.length-(i+1)=F.length-i-1 by omega];simp] at ih'
     clear ihk ihi
     repeat' (first|(apply z07;(first|refine z0p ?_| (apply z0a;(first|refine z02 (z11 (u:=z1x v) gv) rfl rfl ?_| refine z02 z2j rfl rfl ?_))|(apply z0i;(refine z02 (z2d rfl (by simp only[zA4,lv];omega)) rfl rfl ?_))|(apply z0n;(refine z02 (z0r z0y) rfl rfl ?_))))|(apply z08;(first|refine z0o ?_|apply z09|refine z1w ?_| refine z2m (fun _=>?_) (fun _=>?_)))|(apply z05;(first|apply z06|apply z00|refine z0w ?_| apply z04|apply z01|apply z03|refine z0f (fun _=>?_) (fun _=>?_)| refine z0h ?_)))
     all_goals exact zD6
 · obtain rfl:i=F.length:=by omega
   rw[Nat.sub_self,Tbl.dAll] at i3
   rw[← i3] at hres
   simp only at hres
   have hs:=hsp c ds hcl hdl
   rw[Nat.sub_self,List.replicate_zero,List.append_nil]
   clear ihi
   refine z1r 1001 rfl ?_
   cases hb:Go.Ax.spl c ds F.length with
   | true =>
    rw[hb] at hres hs
    rw[zAz rfl] at hres
    have ih':=ih (f,ds) ⟨hdl,hres⟩ (by simp only;omega)
    clear ih
    repeat' (first|(apply z07;(first|refine z0p ?_| (apply z0a;(refine z02 z2j rfl rfl ?_))|(apply z0u;(refine z1o hs ?_))))|(apply z08;(first|refine z0o ?_|apply z09))|(apply z05;(first|apply z06|apply z00|refine z0w ?_| apply z04|apply z01|apply z03|refine z0f (fun _=>?_) (fun _=>?_)| refine z0h ?_)))
    all_goals exact zD6
   | false =>
    rw[hb] at hres hs
    rw[zAy (by decide)] at hres
    simp only[zAh] at hres
    subst hres
    clear ih
    repeat' (first|(apply z07;(first|refine z0p ?_| (apply z0a;(refine z02 z2j rfl rfl ?_))|(apply z0u;(refine z1o hs ?_))))|(apply z08;(first|refine z0o ?_|apply z09))|(apply z05;(first|apply z06|apply z00|refine z1d ?_| apply z04|apply z01|refine z0f (fun _=>?_) (fun _=>?_)| refine z0h ?_)))
    all_goals try (exfalso;omega)
    all_goals exact z0q Tryz.func90 _ z1e ⟨rfl,rfl⟩
theorem zz2 {P:List Int} {x:Nat}:nxE (P.drop (x+1))=zez P x:=by
 rw[zez]
 cases h:P[x+1]? with
 | none=>rw[List.drop_eq_nil_iff.2 (by simpa using h)];rfl
 | some y=>rw[drop_cons h];rfl
theorem zvn {lv:List Bool} {cl P r:List Int} {x:Nat} {p n:Int} (hp:P[x]? =some p) (hn:r[x]? =some n) :
 zap lv cl (zgk (P.drop x) (r.drop x))=if lv.getD n.toNat false=true then (p,zez P x,cl.getD n.toNat 0)::zap lv cl (zgk (P.drop (x+1)) (r.drop (x+1))) else zap lv cl (zgk (P.drop (x+1)) (r.drop (x+1))):=by
 rw[drop_cons hp,drop_cons hn,zbv,zap,zz2]
theorem zph {l:List Bool} {i:Nat} {x:Bool} (h:l[i]? =some x):l.getD i false=x:=by rw[List.getD,h];rfl
theorem zn1 (t:Tbl) (hW:z9a t) (hn:t.F.length≤1000000) (hP:t.P.length≤1000) (cl:List Int) (hcl:t.clsT (t.F.length+1) t.c0=some cl) (hcln:cl.length=t.F.length) (fin:Int→Bool) (edg:Int→List (Go.Ax.Edge Int))
 (hfin:∀ s,s<t.F.length→fin (cl.getD s 0)=t.F.getD s false) (hedg:∀ s,s<t.F.length→edg (cl.getD s 0)=zap t.live cl (t.edg s)) (a:Au) (hex:exL fin edg t.F.length (t.F.length+1) 0 [cl.getD 0 0] ⟨[],[]⟩=some a) :
 z0z Tryz.prog 48 [.d (zw0 t)] (.d (auD a)):=by
 refine z1l fun H=>?_
 have h90:=zng t hW hn hP cl hcl
 have h91:=y15 t hW hn hP
 have hlvl:=(zi1 hW).1
 have hpos:=hW.pos
 have hrow:=fun i (hi:i<t.F.length)=>zke hW hi
 have hend:=fun x (hx:x<t.P.length)=>y4e t.P (by omega) (fun z hz=>by have:=hW.rng z hz;omega) x hx
 have hPr:=hW.rng
 have hNl:=hW.len
 clear hcl hW
 generalize t.live=lv at *
 obtain⟨P,F,N⟩:=t
 simp only[Tbl.edg] at hn hP hfin hedg hex hlvl hpos hrow hend hPr hNl hcln
 obtain⟨c0,hc0⟩:∃ c,cl[0]? =some c:=⟨_,zA0 (by omega)⟩
 have hc0i:cl[(0:Int).toNat]? =some c0:=hc0
 rw[z2s hc0] at hex
 refine z0m Tryz.func48 (by kernel_rfl) rfl (by simp) ?_
 dsimp only[Tryz.f48]
 repeat' (first|(apply z07;(first|refine z9g (by decide) rfl ?_|refine zdc (et:=3) (a:=c0) (v:=z1x 0) (py:=I .i64 c0) (q:=([]:List ((Int) × D))) (by kernel_rfl) z97 rfl rfl z94 rfl rfl rfl ?_|refine z0p ?_| (apply z0a;(refine z02 z22 rfl rfl ?_))|(apply z0i;(refine z02 (z0v (ys:=cl.map fun x=>[z1x x]) rfl (z5o (g:=fun x=>[z1x x]) hc0i)) rfl rfl ?_))|(apply z0d;(refine z2g ?_))|(apply z0k;(refine z0b z2q ?_))|(apply z1y;(refine z0b z2e ?_))|(apply z15;(refine z3u ?_))|(apply z2h;(refine zbl (e:=3) rfl rfl rfl rfl rfl rfl rfl rfl rfl (by decide) ?_))))|(apply z08;(first|refine z0o ?_|apply z09))|(apply z05;(first|apply z06|apply z00|apply z01|apply z23))|(apply z25;(first|(apply z0t;refine z1b mix ?_)|refine z29 ?_| (apply z0j;(refine z0g z3k rfl rfl ?_))|(apply z1k;(first|refine z4d h90 ?_| refine z4d h91 ?_)))))
 all_goals try (exfalso;omega)
 refine z2a 25 1003 ?_
 refine z3f 7 0 1001 4 1 rfl rfl rfl rfl ?_
 refine z3f 7 1 1002 39 1 rfl rfl rfl rfl ?_
 refine z16 ?_
 refine z0c (z1u (fun q:Nat × List Int × List Int × Au=>⟨107,[(1,.ptr (0,1) 0),(2,.ptr (0,2) 0),(3,.d (ints cl)),(4,.d (z7s lv)),(5,.ref (0,20)),(6,.ref (0,1003)),(7,.ptr (0,7) 0),(8,I .i64 (q.1:Nat))],[(1,.box [.d (z5g P),.d (z7s F),.d (.slice (N.map z73))]),(2,.box [.d (.lit z3g),.d (.lit z3g)]),(20,mpI q.2.1),(1003,.row 3 1 (q.2.2.1.map icc)),(7,.box [.ref (0,1001),.ref (0,1002)]),(1001,.row 4 1 (q.2.2.2.F.map boc)),(1002,.row 39 1 (q.2.2.2.A.map z4n))],H⟩)
  (fun q=>q.1≤F.length∧q.2.1.length≤F.length∧q.2.2.1.map (cAt cl)=q.2.1∧(∀ o∈q.2.2.1,0≤o∧o<F.length)∧q.2.2.2.F.length=q.1∧q.2.2.2.A.length=q.1∧exL fin edg F.length (F.length+1-q.1) q.1 q.2.1 q.2.2.2=some a) (fun q=>F.length+1-q.1) ?_ (0,[c0],[0],⟨[],[]⟩) ⟨zAf _,by simp only[zAn];omega,by simp[cAt,hc0],fun o ho=>by rw[zAq] at ho;subst ho;omega,rfl,rfl,hex⟩) rfl rfl
 clear hex
 rintro⟨q,ks,os,⟨F',A'⟩⟩ ⟨q1,q2,q3,q4,q5,q6,q7⟩ ih
 simp only at q1 q2 q3 q4 q5 q6 q7 ih ⊢
 have hol:os.length=ks.length:=by rw[← q3,zA4]
 by_cases hlt:q<os.length
 · obtain⟨s,hs⟩:∃ s,os[q]? =some s:=⟨_,zA0 hlt⟩
   have hsr:=q4 s (zA2 hs)
   obtain⟨s,rfl⟩:∃ k:Nat,s=k:=⟨s.toNat,by omega⟩
   obtain⟨r,hr,hr1,hr2,hr3⟩:=hrow s (by omega)
   have hr0:N[((s:Nat):Int).toNat]? =some r:=by rw[zA9];exact hr
   obtain⟨b,hb⟩:∃ b,F[s]? =some b:=⟨_,zA0 (by omega)⟩
   have hb0:F[((s:Nat):Int).toNat]? =some b:=by rw[zA9];exact hb
   have hk:ks[q]? =some (cl.getD s 0):=by rw[← q3,zAd,hs];simp[cAt]
   have e1:=hfin s (by omega)
   have e2:=hedg s (by omega)
   rw[hr1] at e2
   rw[zph hb] at e1
   rw[show F.length+1-q=(F.length+1-(q+1))+1 by omega,exL,hk] at q7
   simp only at q7
   rw[e1,e2] at q7
   clear hfin hedg e1 e2 h90 h91
   repeat' (first|(apply z07;(first|refine z0p ?_| (apply z0a;(first|refine z02 (z11 (u:=z1x (s:Nat)) hs) rfl rfl ?_| refine z02 z1m rfl rfl ?_))|(apply z0e;(refine z02 z0s rfl rfl ?_))|(apply z0i;(refine z02 (z2d rfl (by simp only[zA4];omega)) rfl rfl ?_))|(apply z14;(first|refine z02 (z1j rfl) rfl rfl ?_| refine z02 (z1h rfl) rfl rfl ?_))))|(apply z08;(first|refine z0o ?_|apply z09))|(apply z05;(first|apply z06|apply z00|apply z04|apply z01|apply z23|refine z0f (fun _=>?_) (fun _=>?_)| refine z0h ?_))|(apply z25;(first|(apply z0t;refine z1b mix ?_)|refine z29 ?_| (apply z0j;(first|refine z0g z1m rfl rfl ?_| refine z0g z22 rfl rfl ?_))|(apply z13;(refine z0g z0s rfl rfl ?_))|(apply z0l;(refine z0g (z0v (ys:=F.map boc) rfl (z5o (g:=boc) hb0)) rfl rfl ?_))|(apply z4l;(refine z6f (g:=boc) (by first|exact rfl|exact⟨_,rfl,rfl,rfl⟩) rfl rfl b rfl rfl rfl rfl rfl rfl rfl (by decide) (by omega) ?_))|(apply z1s;(refine z8t (by first|exact rfl|exact⟨_,rfl,rfl,rfl⟩) rfl rfl rfl rfl rfl ?_))|(apply z5x;(refine z9i rfl ?_)))))
   all_goals try (exfalso;first|omega|(simp only[zA4] at *;omega))
   refine z2a 45 1001 ?_
   refine z2r 10 1000 38 3 rfl rfl rfl ?_
   refine z16 ?_
   refine z0c (z1u (fun x:Nat × List Int × List Int × List Arc=>⟨107,[(1,.ptr (0,1) 0),(2,.ptr (0,2) 0),(3,.d (ints cl)),(4,.d (z7s lv)),(5,.ref (0,20)),(6,.ref (0,1003)),(7,.ptr (0,7) 0),(8,I .i64 (q:Nat)),(9,I .i64 (s:Nat)),(10,.ref (0,1000)),(48,.d (z5g P)),(49,I .i64 P.length),(50,I .i64 (x.1:Nat))],[(1,.box [.d (z5g P),.d (z7s F),.d (.slice (N.map z73))]),(2,.box [.d (.lit z3g),.d (.lit z3g)]),(20,mpI x.2.1),(1003,.row 3 1 (x.2.2.1.map icc)),(7,.box [.ref (0,1001),.ref (0,1002)]),(1001,.row 4 1 ((F'++[b]).map boc)),(1002,.row 39 1 (A'.map z4n)),(1000,.row 38 3 (x.2.2.2.map z2x))],H⟩)
    (fun x=>x.1≤P.length∧x.2.1.length≤F.length+x.1∧x.2.2.2.length≤x.1∧x.2.2.1.map (cAt cl)=x.2.1∧(∀ o∈x.2.2.1,0≤o∧o<F.length)∧(zap lv cl (zgk (P.drop x.1) (r.drop x.1))).foldl z5k (x.2.1,x.2.2.2)=(zap lv cl (zgk P r)).foldl z5k (ks,[])) (fun x=>P.length-x.1) ?_ (0,ks,os,[]) ⟨zAf _,q2,zAj _,q3,q4,rfl⟩) rfl rfl
   rintro⟨x,ks2,os2,arcs⟩ ⟨x1,x2,x3,x4,x5,x6⟩ ihx
   simp only at x1 x2 x3 x4 x5 x6 ihx ⊢
   have hol2:os2.length=ks2.length:=by rw[← x4,zA4]
   by_cases hx:x<P.length
   · obtain⟨p,hp⟩:∃ p,P[x]? =some p:=⟨_,zA0 hx⟩
     obtain⟨nn,hnn⟩:∃ n,r[x]? =some n:=⟨_,zA0 (by omega)⟩
     have hnr:=hr3 nn (zA2 hnn)
     have hpr0:=hPr p (zA2 hp)
     have hpr:0≤p∧p≤1114111:=hpr0
     obtain⟨kk,hcn,hck⟩:=zs4 hcln hnr
     obtain⟨vb,hlv⟩:∃ b,lv[nn.toNat]? =some b:=⟨_,zA0 (by omega)⟩
     have hen:=hend x hx
     rw[zvn hp hnn,zph hlv,show cl.getD nn.toNat 0=kk from hck] at x6
     cases vb with
     | false =>
      rw[zAy (by decide)] at x6
      have ihx':=ihx (x+1,ks2,os2,arcs) ⟨by simp only;omega,by simp only;omega,by simp only;omega,x4,x5,x6⟩ (by simp only;omega)
      clear ihx ih
      repeat' (first|(apply z07;(first|refine z0p ?_| (apply z0a;(first|refine z02 z1m rfl rfl ?_| refine z02 z22 rfl rfl ?_))|(apply z0e;(refine z02 z0s rfl rfl ?_))|(apply z0i;(first|refine z02 (z0v (ys:=N.map z73) rfl (z5o (g:=z73) hr0)) rfl rfl ?_| refine z02 (z0v (ys:=P.map fun x=>[z1v x]) rfl (idx (g:=fun x=>[z1v x]) hp)) rfl rfl ?_| refine z02 (z0v (ys:=r.map fun x=>[z1x x]) rfl (idx (g:=fun x=>[z1x x]) hnn)) rfl rfl ?_| refine z02 (z0v (ys:=lv.map boc) rfl (z5o (g:=boc) hlv)) rfl rfl ?_))|(apply z0n;(refine z02 (z0r z0y) rfl rfl ?_))))|(apply z08;(first|refine z0o ?_|apply z09))|(apply z05;(first|apply z06|apply z00|refine z1d ?_| apply z04|apply z01|refine z0f (fun _=>?_) (fun _=>?_)| refine z0h ?_)))
      all_goals try (exfalso;first|omega|(simp at *;done))
      all_goals exact z0c ihx' rfl rfl
     | true =>
      rw[zAz rfl,List.foldl_cons,z5k] at x6
      simp only at x6
      have hal:=z8u ks2 kk
      have hln:=z9d arcs p (zez P x) (z3y kk ks2:Nat)
      have hget:=z7c kk ks2 0
      by_cases hknown:kk∈ks2
      · rw[z6b,zAz hknown] at x6
        rw[zAz hknown,Nat.zero_add] at hget
        have hget1:(z5f (z3i 0 ks2) kk).getD (.lit (.int .i64 0))=z1x (z3y kk ks2:Nat):=by rw[hget];rfl
        have hget2:(z5f (z3i 0 ks2) kk).isSome=true:=by rw[hget];rfl
        have ihx':=ihx (x+1,ks2,os2,ext arcs p (zez P x) (z3y kk ks2:Nat)) ⟨by simp only;omega,by simp only;omega,by simp only;omega,x4,x5,x6⟩ (by simp only;omega)
        clear ihx ih hal x6
        generalize z3y kk ks2=qv at *
        rcases zgm arcs with rfl|⟨m0,y,rfl⟩
        · rw[ext_nil] at ihx'
          have hxn:=fun (H:Hf) (hX:H 0 1000=some (.row 38 3 (([]:List Arc).map z2x)))=>zco [] p (zez P x) (qv:Nat) (by decide) hpr (fun y hy=>by cases hy) H hX
          exact zD13
        · rw[z45] at ihx'
          have hml:m0.length≤1000000:=by simp only[zAa,zAn] at x3;omega
          by_cases hj:y.2.1+1=p∧y.2.2=((qv:Nat):Int)
          · rw[zAz hj] at ihx'
            have hxo:=zlx m0 y p (zez P x) (qv:Nat) hml hpr hj.1 hj.2
            rw[hj.2] at hxo
            generalize zez P x=ep at *
            repeat' (first|(apply z07;(first|refine z0b (z4r (et:=3) (a:=kk) (q:=z3i 0 ks2) (z0:=Value.int .i64 0) (py:=I .i64 kk) z97 (z2p (by kernel_rfl)) rfl rfl rfl z94 rfl hget1 hget2) ?_|refine z0p ?_| (apply z0a;(first|refine z02 z1m rfl rfl ?_| refine z02 z22 rfl rfl ?_))|(apply z0e;(refine z02 z0s rfl rfl ?_))|(apply z0i;(first|refine z02 (z0v (ys:=N.map z73) rfl (z5o (g:=z73) hr0)) rfl rfl ?_| refine z02 (z0v (ys:=P.map fun x=>[z1v x]) rfl (idx (g:=fun x=>[z1v x]) hp)) rfl rfl ?_| refine z02 (z0v (ys:=r.map fun x=>[z1x x]) rfl (idx (g:=fun x=>[z1x x]) hnn)) rfl rfl ?_| refine z02 (z0v (ys:=lv.map boc) rfl (z5o (g:=boc) hlv)) rfl rfl ?_| refine z02 (z0v (ys:=cl.map fun x=>[z1x x]) rfl (z5o (g:=fun x=>[z1x x]) hcn)) rfl rfl ?_))|(apply z0n;(refine z02 (z0r z0y) rfl rfl ?_))|(apply z0u;(first|refine z3z hxo rfl rfl (by decide) ?_|refine z1o hen ?_))))|(apply z08;(first|refine z0o ?_|apply z09))|(apply z05;(first|apply z06|apply z00|refine z0w ?_| apply z04|apply z01|apply z03|refine z0f (fun _=>?_) (fun _=>?_)| refine z0h ?_)))
            all_goals try (exfalso;first|omega|(simp at *;done))
            all_goals skip
            all_goals exact z0c ihx' rfl rfl
          · rw[zAy hj] at ihx'
            have hxn:=fun (H:Hf) (hX:H 0 1000=some (.row 38 3 ((m0++[y]).map z2x)))=>zco (m0++[y]) p (zez P x) (qv:Nat) (by simp only[zAa,zAn] at x3 ⊢;omega) hpr (fun y' hy'=>by rw[z2z] at hy';cases hy';exact hj) H hX
            exact zD13
      · rw[z6b,zAy hknown,z48 hknown] at x6
        rw[z48 hknown] at hln
        rw[zAy hknown] at hget
        have hget1:(z5f (z3i 0 ks2) kk).getD (.lit (.int .i64 0))=z1x 0:=by rw[hget];rfl
        have hget2:(z5f (z3i 0 ks2) kk).isSome=false:=by rw[hget];rfl
        have hput:=z8w hknown
        have ihx':=ihx (x+1,ks2++[kk],os2++[nn],ext arcs p (zez P x) (ks2.length:Nat)) ⟨by simp only;omega,by simp only[zAa,zAn];omega,by simp only;omega,by simp only[List.map_append,List.map_cons,List.map_nil,x4,hck],fun o ho=>by
         rcases zAt.1 ho with ho|ho
         · exact x5 o ho
         · rw[zAq] at ho;subst ho;exact hnr,x6⟩ (by simp only;omega)
        clear ihx ih hal x6
        dsimp only[mpI] at ihx'
        rw[← hput] at ihx'
        rw[← hol2] at ihx' hput
        rcases zgm arcs with rfl|⟨m0,y,rfl⟩
        · rw[ext_nil] at ihx'
          have hxn:=fun (H:Hf) (hX:H 0 1000=some (.row 38 3 (([]:List Arc).map z2x)))=>zco [] p (zez P x) (os2.length:Nat) (by decide) hpr (fun y hy=>by cases hy) H hX
          exact zD10
        · rw[z45] at ihx'
          have hml:m0.length≤1000000:=by simp only[zAa,zAn] at x3;omega
          by_cases hj:y.2.1+1=p∧y.2.2=((os2.length:Nat):Int)
          · rw[zAz hj] at ihx'
            have hxo:=zlx m0 y p (zez P x) (os2.length:Nat) hml hpr hj.1 hj.2
            rw[hj.2] at hxo
            generalize zez P x=ep at *
            repeat' (first|(apply z07;(first|refine z0b (z4r (et:=3) (a:=kk) (q:=z3i 0 ks2) (z0:=Value.int .i64 0) (py:=I .i64 kk) z97 (z2p (by kernel_rfl)) rfl rfl rfl z94 rfl hget1 hget2) ?_|refine z4f (et:=3) (a:=kk) (v:=z1x (os2.length:Nat)) (py:=I .i64 kk) (q:=z3i 0 ks2) (by kernel_rfl) z97 rfl rfl z94 rfl rfl rfl ?_|refine z0p ?_| (apply z0a;(first|refine z02 z1m rfl rfl ?_| refine z02 z22 rfl rfl ?_))|(apply z0e;(refine z02 z0s rfl rfl ?_))|(apply z0i;(first|refine z02 (z0v (ys:=N.map z73) rfl (z5o (g:=z73) hr0)) rfl rfl ?_| refine z02 (z0v (ys:=P.map fun x=>[z1v x]) rfl (idx (g:=fun x=>[z1v x]) hp)) rfl rfl ?_| refine z02 (z0v (ys:=r.map fun x=>[z1x x]) rfl (idx (g:=fun x=>[z1x x]) hnn)) rfl rfl ?_| refine z02 (z0v (ys:=lv.map boc) rfl (z5o (g:=boc) hlv)) rfl rfl ?_| refine z02 (z0v (ys:=cl.map fun x=>[z1x x]) rfl (z5o (g:=fun x=>[z1x x]) hcn)) rfl rfl ?_))|(apply z0n;(refine z02 (z0r z0y) rfl rfl ?_))|(apply z14;(first|refine z30 (g:=icc) nn rfl ?_| refine z02 (z1h rfl) rfl rfl ?_))|(apply z0u;(first|refine z3z hxo rfl rfl (by decide) ?_|refine z1o hen ?_))|(apply z2h;(refine z2n rfl ?_))))|(apply z08;(first|refine z0o ?_|apply z09))|(apply z05;(first|apply z06|apply z00|refine z1d ?_| refine z0w ?_| apply z04|apply z01|apply z03|refine z0f (fun _=>?_) (fun _=>?_)| refine z0h ?_)))
            all_goals try (exfalso;first|omega|(simp at *;done))
            all_goals refine z2a 90 1003 ?_
            all_goals exact z0c ihx' rfl rfl
          · rw[zAy hj] at ihx'
            have hxn:=fun (H:Hf) (hX:H 0 1000=some (.row 38 3 ((m0++[y]).map z2x)))=>zco (m0++[y]) p (zez P x) (os2.length:Nat) (by simp only[zAa,zAn] at x3 ⊢;omega) hpr (fun y' hy'=>by rw[z2z] at hy';cases hy';exact hj) H hX
            exact zD10
   · rw[show P.drop x=[] from List.drop_eq_nil_iff.2 (by omega),z9l,zap,List.foldl_nil] at x6
     rw[← x6] at q7
     simp only at q7
     have hle:ks2.length≤F.length:=by
      refine Decidable.byContradiction fun hn=>?_
      rw[zAz (by omega)] at q7;cases q7
     rw[zAy (by omega)] at q7
     have ih':=ih (q+1,ks2,os2,⟨F'++[b],A'++[arcs]⟩) ⟨by simp only;omega,hle,x4,x5,by simp[q5],by simp[q6],q7⟩ (by simp only;omega)
     clear ih ihx
     refine z1r 1000 rfl ?_
     repeat' (first|(apply z07;(first|refine z0p ?_| (apply z0a;(refine z02 z1m rfl rfl ?_))|(apply z0e;(refine z02 z0s rfl rfl ?_))|(apply z0n;(refine z02 (z0r z0y) rfl rfl ?_))|(apply z14;(refine z30 (g:=z4n) arcs rfl ?_))|(apply z0d;(refine z2g ?_))|(apply z2h;(refine z2n rfl ?_))))|(apply z08;(first|refine z0o ?_|apply z09))|(apply z05;(first|apply z06|apply z00|apply z04|apply z01|apply z03|refine z0f (fun _=>?_) (fun _=>?_)| refine z0h ?_)))
     all_goals try (exfalso;omega)
     all_goals refine z2a 104 1002 ?_
     all_goals exact z0c ih' rfl rfl
 · obtain⟨n,hn2⟩:∃ n,F.length+1-q=n+1:=⟨F.length-q,by omega⟩
   rw[hn2,exL,zAv (by omega)] at q7
   simp only[zAh] at q7
   subst q7
   clear ih
   refine z1r 1001 rfl ?_
   refine z1r 1002 rfl ?_
   repeat' (first|(apply z07;(first|refine z0p ?_| (apply z0a;(refine z02 z2j rfl rfl ?_))|(apply z14;(refine z02 (z1h rfl) rfl rfl ?_))|(apply z0d;(refine z2g ?_))))|(apply z08;(first|refine z0o ?_|apply z09))|(apply z05;(first|apply z06|apply z00|apply z04|apply z01|refine z0f (fun _=>?_) (fun _=>?_)| refine z0h ?_)))
   all_goals try (exfalso;omega)
   all_goals exact z0q Tryz.func48 _ (z4c rfl rfl rfl rfl rfl rfl) ⟨rfl,rfl⟩
theorem y22 {n:Nat} (cl:List Int) (hl:cl.length=n) (q:Nat) (hq:q<n):stQ cl (cl.getD q 0)<n∧cl.getD (stQ cl (cl.getD q 0)) 0=cl.getD q 0:=by
 exact zD101
theorem zry (a b:Au) (op:Int) (ha:AuW a) (hb:AuW b) (hna:a.A.length≤20) (hnb:b.A.length≤20) (hla:∀ l∈a.A,l.length≤12) (hlb:∀ l∈b.A,l.length≤12) :
 ∃ t m,z0z Tryz.prog 46 [.d (auD a),.d (auD b),I .i64 op] (.d (zw0 t))∧z0z Tryz.prog 48 [.d (zw0 t)] (.d (auD m))∧Nrm m∧AuW m∧m.F.length≤(a.F.length+1)*(b.F.length+1)∧∀ w,m.acc 0 w=(vld w&&zt3 (a.acc 0 w) (b.acc 0 w) op):=by
 have hin:∀ (c:Au),AuW c→(∀ l∈c.A,l.length≤12)→∀ r∈c.A.map z4e,r.length≤12∧∀ x∈r,0≤x.1∧x.1≤1114111∧0≤x.2∧x.2≤1114111:=fun c hc hl r hr=>by
  obtain⟨l,hl2,rfl⟩:=List.mem_map.1 hr
  refine⟨by rw[z4e,zA4];exact hl l hl2,fun x hx=>?_⟩
  obtain⟨y,hy,rfl⟩:=List.mem_map.1 hx
  have:=(hc.arc l hl2).2 y hy
  simp only;omega
 have hrs:zbw [a,b]=a.A.map z4e++b.A.map z4e:=by simp[zbw]
 have hrr:∀ r∈zbw [a,b],r.length≤12∧∀ x∈r,0≤x.1∧x.1≤1114111∧0≤x.2∧x.2≤1114111:=fun r hr=>by
  rw[hrs,zAt] at hr
  rcases hr with hr|hr
  · exact hin a ha hla r hr
  · exact hin b hb hlb r hr
 obtain⟨hpts,hmem⟩:=zt5 (L:=zbw [a,b]) fun r hr=>(hrr r hr).2
 have hpl:(z95 (zbw [a,b])).length≤1000:=by
  have h1:=zl9 (zbw [a,b]) [0] 12 fun r hr=>(hrr r hr).1
  have h2:(zbw [a,b]).length=a.A.length+b.A.length:=by rw[hrs];simp
  rw[h2] at h1
  rw[z95]
  simp only[zAn] at h1
  omega
 have hap:∀ l∈a.A,∀ x∈l,x.1∈z95 (zbw [a,b])∧(x.2.1+1≤1114111→x.2.1+1∈z95 (zbw [a,b])):=fun l hl x hx =>
  hmem (z4e l) (by rw[hrs];exact List.mem_append_left _ (List.mem_map_of_mem hl)) (x.1,x.2.1) (by rw[z4e];exact List.mem_map.2 ⟨x,hx,rfl⟩)
 have hbp:∀ l∈b.A,∀ x∈l,x.1∈z95 (zbw [a,b])∧(x.2.1+1≤1114111→x.2.1+1∈z95 (zbw [a,b])):=fun l hl x hx =>
  hmem (z4e l) (by rw[hrs];exact List.mem_append_right _ (List.mem_map_of_mem hl)) (x.1,x.2.1) (by rw[z4e];exact List.mem_map.2 ⟨x,hx,rfl⟩)
 obtain⟨t,ht,htP,hT⟩:=zmz ha hb (dec:=fun p q=>zt3 p q op) hpts hap hbp
 have hfa:=ha.len
 have hfb:=hb.len
 have hsm:(a.F.length+1)*(b.F.length+1)≤21*21:=Nat.mul_le_mul (by omega) (by omega)
 have h46:=y06 a b op ha hb (by omega) (by omega) (fun l hl=>by have:=hla l hl;omega) (fun l hl=>by have:=hlb l hl;omega) hpl ((a.F.length+1)*(b.F.length+1)+1) (by omega) t ht
 have hW:=hT.w
 have hfew:=hT.few
 obtain⟨cl,h1,h2,h3,h4⟩:=zvs hW
 have hlv:=(zi1 hW).2
 have hst:=fun i hi=>y22 cl h2.len i hi
 obtain⟨m,m1,m2,m3,m4,m5⟩:=zr3 hW h4 h3 hlv hst
 refine⟨t,m,h46,zn1 t hW (by omega) (by rw[htP];exact hpl) cl h1 h2.len _ _ (fun s hs=>?_) (fun s hs=>?_) m m1,m2,m3,Nat.le_trans m4 hfew,fun w=>by rw[m5,hT.acc]⟩
 · obtain⟨s1,s2⟩:=hst s hs
   exact(h4 _ _ s1 hs).1 s2 []
 · obtain⟨s1,s2⟩:=hst s hs
   exact zui hW h4 hlv s1 hs s2
end Go.Proofs.YthdfkabdoidjfaaGreatDoor
