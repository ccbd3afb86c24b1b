/- A part of the proof: R8 to R10. -/
import Derived.Test.YthdfkabdoidjfaaGreatDoorUc
import Derived.Test.YthdfkabdoidjfaaGreatDoorU7
import Derived.Test.YthdfkabdoidjfaaGreatDoorU2
import Derived.Test.YthdfkabdoidjfaaGreatDoorUy
import Derived.Test.YthdfkabdoidjfaaGreatDoorU3
set_option linter.all false
namespace Go.Proofs.YthdfkabdoidjfaaGreatDoor
open Go.Ab Go.Ax Go.Rx
set_option maxHeartbeats 20000000
set_option maxRecDepth 100000
attribute [local irreducible] Run Ops Op1 z1d Val Tr z08 z13 NF Rel z2h z2g
abbrev f01 (b:Bool):Int:=if b=true then 1 else 0
theorem zo3 (t:Tbl) (hW:z8g t) (hn:t.F.length≤1000000) (hP:t.P.length≤1000) (res:List Int) (hres:t.clsT (t.F.length+1) t.c0=some res):z08 Tryz.prog 90 [.d (zyp t)] (.d (ints res)):=by
 refine z0g fun H=>?_
 have hal:=fun c hc i k hi hk=>y1l t hW hn hP c hc i k hi hk
 have hsp:=fun c d hc hd=>zzo t t.F.length hn c d hc hd
 have hstep:=fun (c:List Int) (q:Nat) (s:List Int × Int) (hs:DS t c q s) (hq:q<t.F.length)=>hs.step hW hq
 have hc0:t.c0=t.F.map f01:=rfl
 rw[hc0] at hres
 have hc0l:(t.F.map f01).length=t.F.length:=zA4 _
 obtain⟨P,F,N⟩:=t
 simp only at hn hP hal hsp hc0l hres hstep
 refine z03 Tryz.func90 (by kernel_rfl) rfl (by simp) ?_
 dsimp only[Tryz.f90]
 repeat' (first|(apply z0w;(refine z07 z2b ?_))|(apply zb6;(refine zaw (xs:=(List.replicate F.length (0:Int)).map icc) rfl rfl (Int.natCast_nonneg _) (by show ((F.length:Nat):Int)≤_;omega) rfl rfl rfl (by decide) (by simp) ?_))|refine stq ?_|fail)
 all_goals try (exfalso;omega)
 refine z18 13 1000 ?_
 refine z0a ?_
 refine z00 (z0p (fun q:Nat=>⟨81,[(1,.ptr (0,1) 0),(3,.ref (0,1000)),(15,.d (z56 F)),(16,I .i64 F.length),(17,I .i64 (q:Nat))],[(1,.box [.d (z4b P),.d (z56 F),.d (.slice (N.map z62))]),(1000,.row 3 1 ((((F.map f01).take q)++List.replicate (F.length-q) (0:Int)).map icc))],H⟩) (fun q=>q≤F.length) (fun q=>F.length-q) ?_ 0 (zAf _)) rfl rfl
 rintro q q1 ih
 by_cases hq:q<F.length
 · obtain⟨b,hb⟩:∃ b,F[q]? =some b:=⟨_,zA0 hq⟩
   have ih':=ih (q+1) (by omega) (by omega)
   have hfb:(F.map f01)[q]? =some (f01 b):=by rw[zAd,hb];rfl
   rw[z3n hfb] at ih'
   have hrs:=z5r hq
   have htl:((F.map f01).take q).length=q:=by rw[zAm];omega
   generalize (F.map f01).take q=C at *
   have hget:(C++List.replicate (F.length-q) 0)[((q:Nat):Int).toNat]? =some 0:=by
    rw[hrs,zA9,zAg (by omega),htl,Nat.sub_self];rfl
   have hset:∀ v,(C++List.replicate (F.length-q) 0).set ((q:Nat):Int).toNat v=C++[v]++List.replicate (F.length-(q+1)) 0:=fun v=>by
    rw[hrs,zA9,z4h htl hq,show F.length-(q+1)=F.length-q-1 by omega];simp
   have hno:C++List.replicate (F.length-q) 0=C++[0]++List.replicate (F.length-(q+1)) 0:=by
    rw[hrs,show F.length-(q+1)=F.length-q-1 by omega];simp
   clear ih
   cases b with
   | true =>
    have hs1:=hset 1
    repeat' (first|(apply z01;(first|refine z04 (z0k (ys:=F.map boc) rfl (idx (g:=boc) hb)) rfl rfl ?_| refine z04 (z10 rfl (by simp only[zA4,zAa,zAr,htl];omega)) rfl rfl ?_))|(apply z0n;(refine z23 (1:Int) hget hs1 ?_))|refine stq ?_|refine fk (fun _=>?_) (fun _=>?_))
    all_goals exact zD18
   | false =>
    rw[show f01 false=0 from rfl,← hno] at ih'
    repeat' (first|(apply z01;(refine z04 (z0k (ys:=F.map boc) rfl (idx (g:=boc) hb)) rfl rfl ?_))|refine stq ?_|refine fk (fun _=>?_) (fun _=>?_))
    all_goals exact zD18
 obtain rfl:q=F.length:=by omega
 clear ih
 rw[Nat.sub_self,List.replicate_zero,List.append_nil,show (F.map f01).take F.length=F.map f01 by rw[← hc0l,List.take_length]]
 refine z0o 1000 rfl ?_
 repeat' (first|refine stq ?_|refine fk (fun _=>?_) (fun _=>?_))
 all_goals try (exfalso;omega)
 refine z0a ?_
 refine z00 (z0p (fun q:Nat × List Int=>⟨81,[(1,.ptr (0,1) 0),(3,.d (ints q.2))],[(1,.box [.d (z4b P),.d (z56 F),.d (.slice (N.map z62))])],H⟩) (fun q=>q.2.length=F.length∧(⟨P,F,N⟩:Tbl).clsT q.1 q.2=some res) (fun q=>q.1) ?_ (F.length+1,F.map f01) ⟨hc0l,hres⟩) rfl rfl
 clear hres
 rintro⟨f,c⟩ ⟨hcl,hres⟩ ih
 simp only at hcl hres ih ⊢
 cases f with
 | zero=>rw[Tbl.clsT] at hres;cases hres
 | succ f =>
 rw[Tbl.clsT] at hres
 simp only at hres
 have hR:=zil hW c F.length 0 ([],0) (by simp only;omega) ⟨rfl,by simp,fun i hi=>by omega,fun i k hi=>by omega⟩
 simp only at hR
 obtain⟨R,hRe⟩:∃ R,(⟨P,F,N⟩:Tbl).dAll c F.length 0 ([],0)=R:=⟨_,rfl⟩
 rw[hRe] at hres hR
 repeat' (first|(apply zb6;(refine zaw (xs:=(List.replicate F.length (0:Int)).map icc) rfl rfl (Int.natCast_nonneg _) (by first|omega|(simp only[zA4];omega)) rfl rfl rfl (by decide) (by simp[hcl]) ?_))|refine stq ?_|fail)
 all_goals try (exfalso;omega)
 refine z18 29 1001 ?_
 refine z0a ?_
 refine z00 (z0p (fun q:Nat × List Int × Int=>⟨81,[(1,.ptr (0,1) 0),(3,.d (ints c)),(6,.ref (0,1001)),(7,I .i64 q.2.2),(31,I .i64 c.length),(32,I .i64 (q.1:Nat))],[(1,.box [.d (z4b P),.d (z56 F),.d (.slice (N.map z62))]),(1001,.row 3 1 ((q.2.1++List.replicate (F.length-q.1) (0:Int)).map icc))],H⟩) (fun q=>q.1≤F.length∧DS ⟨P,F,N⟩ c q.1 q.2∧(⟨P,F,N⟩:Tbl).dAll c (F.length-q.1) q.1 q.2=R) (fun q=>F.length-q.1) ?_ (0,[],0) ⟨zAf _,⟨rfl,by simp,fun i hi=>by omega,fun i k hi=>by omega⟩,hRe⟩) rfl rfl
 rintro⟨i,ds,m⟩ ⟨i1,i2,i3⟩ ihi
 simp only at i1 i2 i3 ihi ⊢
 have hdl:ds.length=i:=i2.len
 have hm:=i2.cnt
 simp only at hm
 by_cases hi:i<F.length
 · have hnext:=hstep c i (ds,m) i2 hi
   rw[show F.length-i=(F.length-(i+1))+1 by omega,Tbl.dAll] at i3
   have hrg:=i2.rng
   simp only at hrg
   obtain⟨o,ho⟩:∃ o,zoh ((⟨P,F,N⟩:Tbl).alk c i) i 0=o:=⟨_,rfl⟩
   rw[Tbl.dOne,ho] at i3 hnext
   have hrs:=z5r hi
   have hgetv:∀ v:Int,(ds++v::List.replicate (F.length-i-1) 0)[((i:Nat):Int).toNat]? =some v:=fun v=>by
    rw[zA9,zAg (by omega),hdl,Nat.sub_self];rfl
   have hsetv:∀ v w:Int,(ds++v::List.replicate (F.length-i-1) 0).set ((i:Nat):Int).toNat w=ds++w::List.replicate (F.length-i-1) 0:=fun v w=>by
    rw[zA9,z4h hdl hi]
   have hlen:∀ v:Int,(ds++v::List.replicate (F.length-i-1) 0).length=F.length:=fun v=>by
    simp only[zAa,zAk,zAr,hdl];omega
   rw[hrs]
   have g0:=hgetv 0
   have s0:=hsetv 0 (-1)
   have l0:=hlen 0
   clear ih
   repeat' (first|(apply z01;(refine z04 (z10 rfl (by simp only[zA4,l0];omega)) rfl rfl ?_))|(apply z0n;(refine z23 (-1:Int) g0 s0 ?_))|refine stq ?_|refine fk (fun _=>?_) (fun _=>?_))
   all_goals try (exfalso;omega)
   refine z0a ?_
   refine z00 (z0p (fun q:Nat × Int=>⟨81,[(1,.ptr (0,1) 0),(3,.d (ints c)),(6,.ref (0,1001)),(7,I .i64 m),(8,I .i64 (i:Nat)),(9,I .i64 (q.1:Nat)),(31,I .i64 c.length),(32,I .i64 (i:Nat))],[(1,.box [.d (z4b P),.d (z56 F),.d (.slice (N.map z62))]),(1001,.row 3 1 ((ds++q.2::List.replicate (F.length-i-1) (0:Int)).map icc))],H⟩)
    (fun q=>q.1≤i∧((q.2=-1∧zoh ((⟨P,F,N⟩:Tbl).alk c i) (i-q.1) q.1=o)∨(0≤q.2∧∃ k,o=some k∧q.2=ds.getD k 0))) (fun q=>i-q.1) ?_ (0,-1) ⟨zAf _,.inl ⟨rfl,ho⟩⟩) rfl rfl
   rintro⟨k,v⟩ ⟨k1,k2⟩ ihk
   simp only at k1 k2 ihk ⊢
   have gv:=hgetv v
   have lv:=hlen v
   rcases k2 with ⟨rfl,k2⟩|⟨hv,k0,hk0,hvk⟩
   · by_cases hk:k<i
     · rw[show i-k=(i-(k+1))+1 by omega,zoh] at k2
       have hak:=hal c hcl i k hi (by omega)
       obtain⟨dk,hdk⟩:∃ x,ds[k]? =some x:=⟨_,zA0 (by omega)⟩
       have hdkr:=hrg k (by omega)
       rw[z1n hdk] at hdkr
       have gk:(ds++(-1)::List.replicate (F.length-i-1) 0)[((k:Nat):Int).toNat]? =some dk:=by
        rw[zA9,zAb (by omega)];exact hdk
       have sk:=hsetv (-1) dk
       cases hb:(⟨P,F,N⟩:Tbl).alk c i k with
       | true =>
        rw[hb] at k2 hak
        rw[zAz rfl] at k2
        have ih':=ihk (k+1,dk) ⟨by simp only;omega,.inr ⟨hdkr.1,k,k2.symm,(z1n hdk).symm⟩⟩ (by simp only;omega)
        clear ihk ihi
        repeat' (first|(apply z1c;(first|refine z04 (z0x (u:=z0u (-1)) gv) rfl rfl ?_| refine z04 (z0x (u:=z0u dk) gk) rfl rfl ?_))|(apply z01;(refine z04 (z10 rfl (by simp only[zA4,lv];omega)) rfl rfl ?_))|(apply z06;(refine z1i hak ?_))|(apply z0n;(refine z23 dk gv sk ?_))|refine stq ?_|refine fk (fun _=>?_) (fun _=>?_))
        all_goals exact zD8
       | false =>
        rw[hb] at k2 hak
        rw[zAy (by decide)] at k2
        have ih':=ihk (k+1,-1) ⟨by simp only;omega,.inl ⟨rfl,k2⟩⟩ (by simp only;omega)
        clear ihk ihi
        repeat' (first|(apply z1c;(refine z04 (z0x (u:=z0u (-1)) gv) rfl rfl ?_))|(apply z01;(refine z04 (z10 rfl (by simp only[zA4,lv];omega)) rfl rfl ?_))|(apply z06;(refine z1i hak ?_))|refine stq ?_|refine fk (fun _=>?_) (fun _=>?_))
        all_goals exact zD8
     · rw[show i-k=0 by omega,zoh] at k2
       subst k2
       simp only at i3 hnext
       have sm:=hsetv (-1) m
       have ih':=ihi (i+1,ds++[m],m+1) ⟨by simp only;omega,hnext,i3⟩ (by simp only;omega)
       simp only at ih'
       rw[show (ds++[m])++List.replicate (F.length-(i+1)) (0:Int)=ds++m::List.replicate (F.length-i-1) 0 by rw[show F.length-(i+1)=F.length-i-1 by omega];simp] at ih'
       clear ihk ihi
       repeat' (first|(apply z1c;(refine z04 (z0x (u:=z0u (-1)) gv) rfl rfl ?_))|(apply z01;(refine z04 (z10 rfl (by simp only[zA4,lv];omega)) rfl rfl ?_))|(apply z0n;(refine z23 m gv sm ?_))|refine stq ?_|refine fk (fun _=>?_) (fun _=>?_))
       all_goals exact zD8
   · subst hk0
     simp only at i3 hnext
     rw[← hvk] at i3 hnext
     have ih':=ihi (i+1,ds++[v],m) ⟨by simp only;omega,hnext,i3⟩ (by simp only;omega)
     simp only at ih'
     rw[show (ds++[v])++List.replicate (F.length-(i+1)) (0:Int)=ds++v::List.replicate (F.length-i-1) 0 by rw[show F.length-(i+1)=F.length-i-1 by omega];simp] at ih'
     clear ihk ihi
     repeat' (first|(apply z1c;(refine z04 (z0x (u:=z0u v) gv) rfl rfl ?_))|(apply z01;(refine z04 (z10 rfl (by simp only[zA4,lv];omega)) rfl rfl ?_))|refine stq ?_|refine fk (fun _=>?_) (fun _=>?_))
     all_goals exact zD8
 · obtain rfl:i=F.length:=by omega
   rw[Nat.sub_self,Tbl.dAll] at i3
   rw[← i3] at hres
   simp only at hres
   have hs:=hsp c ds hcl hdl
   rw[Nat.sub_self,List.replicate_zero,List.append_nil]
   clear ihi
   refine z0o 1001 rfl ?_
   cases hb:Go.Ax.spl c ds F.length with
   | true =>
    rw[hb] at hres hs
    rw[zAz rfl] at hres
    have ih':=ih (f,ds) ⟨hdl,hres⟩ (by simp only;omega)
    clear ih
    repeat' (first|(apply z06;(refine z1i hs ?_))|refine stq ?_|refine fk (fun _=>?_) (fun _=>?_))
    all_goals exact zD8
   | false =>
    rw[hb] at hres hs
    rw[zAy (by decide)] at hres
    simp only[zAh] at hres
    subst hres
    clear ih
    repeat' (first|(apply z06;(refine z1i hs ?_))|refine stq ?_|refine fk (fun _=>?_) (fun _=>?_))
    all_goals try (exfalso;omega)
    all_goals exact z05 Tryz.func90 _ z0e ⟨rfl,rfl⟩
theorem y1b {P:List Int} {x:Nat}:nxE (P.drop (x+1))=zdt P x:=by
 rw[zdt]
 cases h:P[x+1]? with
 | none=>rw[List.drop_eq_nil_iff.2 (by simpa using h)];rfl
 | some y=>rw[drop_cons h];rfl
theorem zva {lv:List Bool} {cl P r:List Int} {x:Nat} {p n:Int} (hp:P[x]? =some p) (hn:r[x]? =some n) :
 z9t lv cl (zfv (P.drop x) (r.drop x))=if lv.getD n.toNat false=true then (p,zdt P x,cl.getD n.toNat 0)::z9t lv cl (zfv (P.drop (x+1)) (r.drop (x+1))) else z9t lv cl (zfv (P.drop (x+1)) (r.drop (x+1))):=by
 rw[drop_cons hp,drop_cons hn,zas,z9t,y1b]
theorem zp2 {l:List Bool} {i:Nat} {x:Bool} (h:l[i]? =some x):l.getD i false=x:=by rw[List.getD,h];rfl
theorem zo9 (t:Tbl) (hW:z8g t) (hn:t.F.length≤1000000) (hP:t.P.length≤1000) (cl:List Int) (hcl:t.clsT (t.F.length+1) t.c0=some cl) (hcln:cl.length=t.F.length) (fin:Int→Bool) (edg:Int→List (Go.Ax.Edge Int))
 (hfin:∀ s,s<t.F.length→fin (cl.getD s 0)=t.F.getD s false) (hedg:∀ s,s<t.F.length→edg (cl.getD s 0)=z9t t.live cl (t.edg s)) (a:Au) (hex:exL fin edg t.F.length (t.F.length+1) 0 [cl.getD 0 0] ⟨[],[]⟩=some a) :
 z08 Tryz.prog 48 [.d (zyp t)] (.d (auD a)):=by
 refine z0g fun H=>?_
 have h90:=zo3 t hW hn hP cl hcl
 have h91:=y5u t hW hn hP
 have hlvl:=(zhg hW).1
 have hpos:=hW.pos
 have hrow:=fun i (hi:i<t.F.length)=>zlz hW hi
 have hend:=fun x (hx:x<t.P.length)=>y86 t.P (by omega) (fun z hz=>by have:=hW.rng z hz;omega) x hx
 have hPr:=hW.rng
 have hNl:=hW.len
 clear hcl hW
 generalize t.live=lv at *
 obtain⟨P,F,N⟩:=t
 simp only[Tbl.edg] at hn hP hfin hedg hex hlvl hpos hrow hend hPr hNl hcln
 obtain⟨c0,hc0⟩:∃ c,cl[0]? =some c:=⟨_,zA0 (by omega)⟩
 have hc0i:cl[(0:Int).toNat]? =some c0:=hc0
 rw[z1n hc0] at hex
 refine z03 Tryz.func48 (by kernel_rfl) rfl (by simp) ?_
 dsimp only[Tryz.f48]
 repeat' (first|(apply z0y;(first|refine z8m (by decide) rfl ?_|refine zdc (et:=3) (a:=c0) (v:=z0u 0) (py:=I .i64 c0) (q:=([]:List ((Int) × D))) (by kernel_rfl) z89 rfl rfl z8a rfl rfl rfl ?_))|(apply z01;(refine z04 (z0k (ys:=cl.map fun x=>[z0u x]) rfl (z4k (g:=fun x=>[z0u x]) hc0i)) rfl rfl ?_))|(apply z0l;(first|refine z36 h90 ?_| refine z36 h91 ?_))|(apply z0w;(refine z07 z2b ?_))|(apply zfh;(refine zb4 (e:=3) rfl rfl rfl rfl rfl rfl rfl rfl rfl (by decide) ?_))|refine stq ?_|fail)
 all_goals try (exfalso;omega)
 refine z18 25 1003 ?_
 refine z2a 7 0 1001 4 1 rfl rfl rfl rfl ?_
 refine z2a 7 1 1002 39 1 rfl rfl rfl rfl ?_
 refine z0a ?_
 refine z00 (z0p (fun q:Nat × List Int × List Int × Au=>⟨107,[(1,.ptr (0,1) 0),(2,.ptr (0,2) 0),(3,.d (ints cl)),(4,.d (z56 lv)),(5,.ref (0,20)),(6,.ref (0,1003)),(7,.ptr (0,7) 0),(8,I .i64 (q.1:Nat))],[(1,.box [.d (z4b P),.d (z56 F),.d (.slice (N.map z62))]),(2,.box [.d (.lit z2c),.d (.lit z2c)]),(20,mpI q.2.1),(1003,.row 3 1 (q.2.2.1.map icc)),(7,.box [.ref (0,1001),.ref (0,1002)]),(1001,.row 4 1 (q.2.2.2.F.map boc)),(1002,.row 39 1 (q.2.2.2.A.map z25))],H⟩)
  (fun q=>q.1≤F.length∧q.2.1.length≤F.length∧q.2.2.1.map (cAt cl)=q.2.1∧(∀ o∈q.2.2.1,0≤o∧o<F.length)∧q.2.2.2.F.length=q.1∧q.2.2.2.A.length=q.1∧exL fin edg F.length (F.length+1-q.1) q.1 q.2.1 q.2.2.2=some a) (fun q=>F.length+1-q.1) ?_ (0,[c0],[0],⟨[],[]⟩) ⟨zAf _,by simp only[zAn];omega,by simp[cAt,hc0],fun o ho=>by rw[zAq] at ho;subst ho;omega,rfl,rfl,hex⟩) rfl rfl
 clear hex
 rintro⟨q,ks,os,⟨F',A'⟩⟩ ⟨q1,q2,q3,q4,q5,q6,q7⟩ ih
 simp only at q1 q2 q3 q4 q5 q6 q7 ih ⊢
 have hol:os.length=ks.length:=by rw[← q3,zA4]
 by_cases hlt:q<os.length
 · obtain⟨s,hs⟩:∃ s,os[q]? =some s:=⟨_,zA0 hlt⟩
   have hsr:=q4 s (zA2 hs)
   obtain⟨s,rfl⟩:∃ k:Nat,s=k:=⟨s.toNat,by omega⟩
   obtain⟨r,hr,hr1,hr2,hr3⟩:=hrow s (by omega)
   have hr0:N[((s:Nat):Int).toNat]? =some r:=by rw[zA9];exact hr
   obtain⟨b,hb⟩:∃ b,F[s]? =some b:=⟨_,zA0 (by omega)⟩
   have hb0:F[((s:Nat):Int).toNat]? =some b:=by rw[zA9];exact hb
   have hk:ks[q]? =some (cl.getD s 0):=by rw[← q3,zAd,hs];simp[cAt]
   have e1:=hfin s (by omega)
   have e2:=hedg s (by omega)
   rw[hr1] at e2
   rw[zp2 hb] at e1
   rw[show F.length+1-q=(F.length+1-(q+1))+1 by omega,exL,hk] at q7
   simp only at q7
   rw[e1,e2] at q7
   clear hfin hedg e1 e2 h90 h91
   repeat' (first|(apply z1c;(refine z04 (z0x (u:=z0u (s:Nat)) hs) rfl rfl ?_))|(apply z01;(refine z04 (z10 rfl (by simp only[zA4];omega)) rfl rfl ?_))|(apply z02;(refine z09 (z0k (ys:=F.map boc) rfl (z4k (g:=boc) hb0)) rfl rfl ?_))|(apply z43;(refine z55 (g:=boc) (by first|exact rfl|exact⟨_,rfl,rfl,rfl⟩) rfl rfl b rfl rfl rfl rfl rfl rfl rfl (by decide) (by omega) ?_))|(apply z14;(refine z7x (by first|exact rfl|exact⟨_,rfl,rfl,rfl⟩) rfl rfl rfl rfl rfl ?_))|refine stq ?_|refine fk (fun _=>?_) (fun _=>?_))
   all_goals try (exfalso;first|omega|(simp only[zA4] at *;omega))
   refine z18 45 1001 ?_
   refine z1m 10 1000 38 3 rfl rfl rfl ?_
   refine z0a ?_
   refine z00 (z0p (fun x:Nat × List Int × List Int × List Arc=>⟨107,[(1,.ptr (0,1) 0),(2,.ptr (0,2) 0),(3,.d (ints cl)),(4,.d (z56 lv)),(5,.ref (0,20)),(6,.ref (0,1003)),(7,.ptr (0,7) 0),(8,I .i64 (q:Nat)),(9,I .i64 (s:Nat)),(10,.ref (0,1000)),(48,.d (z4b P)),(49,I .i64 P.length),(50,I .i64 (x.1:Nat))],[(1,.box [.d (z4b P),.d (z56 F),.d (.slice (N.map z62))]),(2,.box [.d (.lit z2c),.d (.lit z2c)]),(20,mpI x.2.1),(1003,.row 3 1 (x.2.2.1.map icc)),(7,.box [.ref (0,1001),.ref (0,1002)]),(1001,.row 4 1 ((F'++[b]).map boc)),(1002,.row 39 1 (A'.map z25)),(1000,.row 38 3 (x.2.2.2.map z1k))],H⟩)
    (fun x=>x.1≤P.length∧x.2.1.length≤F.length+x.1∧x.2.2.2.length≤x.1∧x.2.2.1.map (cAt cl)=x.2.1∧(∀ o∈x.2.2.1,0≤o∧o<F.length)∧(z9t lv cl (zfv (P.drop x.1) (r.drop x.1))).foldl z4n (x.2.1,x.2.2.2)=(z9t lv cl (zfv P r)).foldl z4n (ks,[])) (fun x=>P.length-x.1) ?_ (0,ks,os,[]) ⟨zAf _,q2,zAj _,q3,q4,rfl⟩) rfl rfl
   rintro⟨x,ks2,os2,arcs⟩ ⟨x1,x2,x3,x4,x5,x6⟩ ihx
   simp only at x1 x2 x3 x4 x5 x6 ihx ⊢
   have hol2:os2.length=ks2.length:=by rw[← x4,zA4]
   by_cases hx:x<P.length
   · obtain⟨p,hp⟩:∃ p,P[x]? =some p:=⟨_,zA0 hx⟩
     obtain⟨nn,hnn⟩:∃ n,r[x]? =some n:=⟨_,zA0 (by omega)⟩
     have hnr:=hr3 nn (zA2 hnn)
     have hpr0:=hPr p (zA2 hp)
     have hpr:0≤p∧p≤1114111:=hpr0
     obtain⟨kk,hcn,hck⟩:=zra hcln hnr
     obtain⟨vb,hlv⟩:∃ b,lv[nn.toNat]? =some b:=⟨_,zA0 (by omega)⟩
     have hen:=hend x hx
     rw[zva hp hnn,zp2 hlv,show cl.getD nn.toNat 0=kk from hck] at x6
     cases vb with
     | false =>
      rw[zAy (by decide)] at x6
      have ihx':=ihx (x+1,ks2,os2,arcs) ⟨by simp only;omega,by simp only;omega,by simp only;omega,x4,x5,x6⟩ (by simp only;omega)
      clear ihx ih
      repeat' (first|(apply z01;(first|refine z04 (z0k (ys:=N.map z62) rfl (z4k (g:=z62) hr0)) rfl rfl ?_| refine z04 (z0k (ys:=P.map fun x=>[z0v x]) rfl (idx (g:=fun x=>[z0v x]) hp)) rfl rfl ?_| refine z04 (z0k (ys:=r.map fun x=>[z0u x]) rfl (idx (g:=fun x=>[z0u x]) hnn)) rfl rfl ?_| refine z04 (z0k (ys:=lv.map boc) rfl (z4k (g:=boc) hlv)) rfl rfl ?_))|refine stq ?_|refine fk (fun _=>?_) (fun _=>?_))
      all_goals try (exfalso;first|omega|(simp at *;done))
      all_goals exact z00 ihx' rfl rfl
     | true =>
      rw[zAz rfl,List.foldl_cons,z4n] at x6
      simp only at x6
      have hal:=z7s ks2 kk
      have hln:=z8n arcs p (zdt P x) (z2r kk ks2:Nat)
      have hget:=z5t kk ks2 0
      by_cases hknown:kk∈ks2
      · rw[z5b,zAz hknown] at x6
        rw[zAz hknown,Nat.zero_add] at hget
        have hget1:(z4d (z2d 0 ks2) kk).getD (.lit (.int .i64 0))=z0u (z2r kk ks2:Nat):=by rw[hget];rfl
        have hget2:(z4d (z2d 0 ks2) kk).isSome=true:=by rw[hget];rfl
        have ihx':=ihx (x+1,ks2,os2,ext arcs p (zdt P x) (z2r kk ks2:Nat)) ⟨by simp only;omega,by simp only;omega,by simp only;omega,x4,x5,x6⟩ (by simp only;omega)
        clear ihx ih hal x6
        generalize z2r kk ks2=qv at *
        rcases zft arcs with rfl|⟨m0,y,rfl⟩
        · rw[ext_nil] at ihx'
          have hxn:=fun (H:Hf) (hX:H 0 1000=some (.row 38 3 (([]:List Arc).map z1k)))=>zbv [] p (zdt P x) (qv:Nat) (by decide) hpr (fun y hy=>by cases hy) H hX
          exact zD14
        · rw[z2x] at ihx'
          have hml:m0.length≤1000000:=by simp only[zAa,zAn] at x3;omega
          by_cases hj:y.2.1+1=p∧y.2.2=((qv:Nat):Int)
          · rw[zAz hj] at ihx'
            have hxo:=zmb m0 y p (zdt P x) (qv:Nat) hml hpr hj.1 hj.2
            rw[hj.2] at hxo
            generalize zdt P x=ep at *
            repeat' (first|(apply z0y;(refine z07 (z3i (et:=3) (a:=kk) (q:=z2d 0 ks2) (z0:=Value.int .i64 0) (py:=I .i64 kk) z89 (z1l (by kernel_rfl)) rfl rfl rfl z8a rfl hget1 hget2) ?_))|(apply z01;(first|refine z04 (z0k (ys:=N.map z62) rfl (z4k (g:=z62) hr0)) rfl rfl ?_| refine z04 (z0k (ys:=P.map fun x=>[z0v x]) rfl (idx (g:=fun x=>[z0v x]) hp)) rfl rfl ?_| refine z04 (z0k (ys:=r.map fun x=>[z0u x]) rfl (idx (g:=fun x=>[z0u x]) hnn)) rfl rfl ?_| refine z04 (z0k (ys:=lv.map boc) rfl (z4k (g:=boc) hlv)) rfl rfl ?_| refine z04 (z0k (ys:=cl.map fun x=>[z0u x]) rfl (z4k (g:=fun x=>[z0u x]) hcn)) rfl rfl ?_))|(apply z06;(first|refine z2p hxo rfl rfl (by decide) ?_|refine z1i hen ?_))|refine stq ?_|refine fk (fun _=>?_) (fun _=>?_))
            all_goals try (exfalso;first|omega|(simp at *;done))
            all_goals skip
            all_goals exact z00 ihx' rfl rfl
          · rw[zAy hj] at ihx'
            have hxn:=fun (H:Hf) (hX:H 0 1000=some (.row 38 3 ((m0++[y]).map z1k)))=>zbv (m0++[y]) p (zdt P x) (qv:Nat) (by simp only[zAa,zAn] at x3 ⊢;omega) hpr (fun y' hy'=>by rw[z1r] at hy';cases hy';exact hj) H hX
            exact zD14
      · rw[z5b,zAy hknown,z2y hknown] at x6
        rw[z2y hknown] at hln
        rw[zAy hknown] at hget
        have hget1:(z4d (z2d 0 ks2) kk).getD (.lit (.int .i64 0))=z0u 0:=by rw[hget];rfl
        have hget2:(z4d (z2d 0 ks2) kk).isSome=false:=by rw[hget];rfl
        have hput:=z7q hknown
        have ihx':=ihx (x+1,ks2++[kk],os2++[nn],ext arcs p (zdt P x) (ks2.length:Nat)) ⟨by simp only;omega,by simp only[zAa,zAn];omega,by simp only;omega,by simp only[List.map_append,List.map_cons,List.map_nil,x4,hck],fun o ho=>by
         rcases zAt.1 ho with ho|ho
         · exact x5 o ho
         · rw[zAq] at ho;subst ho;exact hnr,x6⟩ (by simp only;omega)
        clear ihx ih hal x6
        dsimp only[mpI] at ihx'
        rw[← hput] at ihx'
        rw[← hol2] at ihx' hput
        rcases zft arcs with rfl|⟨m0,y,rfl⟩
        · rw[ext_nil] at ihx'
          have hxn:=fun (H:Hf) (hX:H 0 1000=some (.row 38 3 (([]:List Arc).map z1k)))=>zbv [] p (zdt P x) (os2.length:Nat) (by decide) hpr (fun y hy=>by cases hy) H hX
          exact zD11
        · rw[z2x] at ihx'
          have hml:m0.length≤1000000:=by simp only[zAa,zAn] at x3;omega
          by_cases hj:y.2.1+1=p∧y.2.2=((os2.length:Nat):Int)
          · rw[zAz hj] at ihx'
            have hxo:=zmb m0 y p (zdt P x) (os2.length:Nat) hml hpr hj.1 hj.2
            rw[hj.2] at hxo
            generalize zdt P x=ep at *
            repeat' (first|(apply z0y;(first|refine z07 (z3i (et:=3) (a:=kk) (q:=z2d 0 ks2) (z0:=Value.int .i64 0) (py:=I .i64 kk) z89 (z1l (by kernel_rfl)) rfl rfl rfl z8a rfl hget1 hget2) ?_|refine z3b (et:=3) (a:=kk) (v:=z0u (os2.length:Nat)) (py:=I .i64 kk) (q:=z2d 0 ks2) (by kernel_rfl) z89 rfl rfl z8a rfl rfl rfl ?_))|(apply z01;(first|refine z04 (z0k (ys:=N.map z62) rfl (z4k (g:=z62) hr0)) rfl rfl ?_| refine z04 (z0k (ys:=P.map fun x=>[z0v x]) rfl (idx (g:=fun x=>[z0v x]) hp)) rfl rfl ?_| refine z04 (z0k (ys:=r.map fun x=>[z0u x]) rfl (idx (g:=fun x=>[z0u x]) hnn)) rfl rfl ?_| refine z04 (z0k (ys:=lv.map boc) rfl (z4k (g:=boc) hlv)) rfl rfl ?_| refine z04 (z0k (ys:=cl.map fun x=>[z0u x]) rfl (z4k (g:=fun x=>[z0u x]) hcn)) rfl rfl ?_))|(apply z15;(refine z48 (g:=icc) nn rfl ?_))|(apply z06;(first|refine z2p hxo rfl rfl (by decide) ?_|refine z1i hen ?_))|refine stq ?_|refine fk (fun _=>?_) (fun _=>?_))
            all_goals try (exfalso;first|omega|(simp at *;done))
            all_goals refine z18 90 1003 ?_
            all_goals exact z00 ihx' rfl rfl
          · rw[zAy hj] at ihx'
            have hxn:=fun (H:Hf) (hX:H 0 1000=some (.row 38 3 ((m0++[y]).map z1k)))=>zbv (m0++[y]) p (zdt P x) (os2.length:Nat) (by simp only[zAa,zAn] at x3 ⊢;omega) hpr (fun y' hy'=>by rw[z1r] at hy';cases hy';exact hj) H hX
            exact zD11
   · rw[show P.drop x=[] from List.drop_eq_nil_iff.2 (by omega),z8o,z9t,List.foldl_nil] at x6
     rw[← x6] at q7
     simp only at q7
     have hle:ks2.length≤F.length:=by
      refine Decidable.byContradiction fun hn=>?_
      rw[zAz (by omega)] at q7;cases q7
     rw[zAy (by omega)] at q7
     have ih':=ih (q+1,ks2,os2,⟨F'++[b],A'++[arcs]⟩) ⟨by simp only;omega,hle,x4,x5,by simp[q5],by simp[q6],q7⟩ (by simp only;omega)
     clear ih ihx
     refine z0o 1000 rfl ?_
     repeat' (first|(apply z15;(refine z48 (g:=z25) arcs rfl ?_))|refine stq ?_|refine fk (fun _=>?_) (fun _=>?_))
     all_goals try (exfalso;omega)
     all_goals refine z18 104 1002 ?_
     all_goals exact z00 ih' rfl rfl
 · obtain⟨n,hn2⟩:∃ n,F.length+1-q=n+1:=⟨F.length-q,by omega⟩
   rw[hn2,exL,zAv (by omega)] at q7
   simp only[zAh] at q7
   subst q7
   clear ih
   refine z0o 1001 rfl ?_
   refine z0o 1002 rfl ?_
   repeat' (first|refine stq ?_|refine fk (fun _=>?_) (fun _=>?_))
   all_goals try (exfalso;omega)
   all_goals exact z05 Tryz.func48 _ (z39 rfl rfl rfl rfl rfl rfl) ⟨rfl,rfl⟩
theorem y4m {n:Nat} (cl:List Int) (hl:cl.length=n) (q:Nat) (hq:q<n):stQ cl (cl.getD q 0)<n∧cl.getD (stQ cl (cl.getD q 0)) 0=cl.getD q 0:=by
 exact zD114
theorem zzh (a b:Au) (op:Int) (ha:AuW a) (hb:AuW b) (hna:a.A.length≤20) (hnb:b.A.length≤20) (hla:∀ l∈a.A,l.length≤12) (hlb:∀ l∈b.A,l.length≤12) :
 ∃ t m,z08 Tryz.prog 46 [.d (auD a),.d (auD b),I .i64 op] (.d (zyp t))∧z08 Tryz.prog 48 [.d (zyp t)] (.d (auD m))∧Nrm m∧AuW m∧m.F.length≤(a.F.length+1)*(b.F.length+1)∧∀ w,m.acc 0 w=(vld w&&zxq (a.acc 0 w) (b.acc 0 w) op):=by
 have hin:∀ (c:Au),AuW c→(∀ l∈c.A,l.length≤12)→∀ r∈c.A.map z3a,r.length≤12∧∀ x∈r,0≤x.1∧x.1≤1114111∧0≤x.2∧x.2≤1114111:=fun c hc hl r hr=>by
  obtain⟨l,hl2,rfl⟩:=List.mem_map.1 hr
  refine⟨by rw[z3a,zA4];exact hl l hl2,fun x hx=>?_⟩
  obtain⟨y,hy,rfl⟩:=List.mem_map.1 hx
  have:=(hc.arc l hl2).2 y hy
  simp only;omega
 have hrs:zb3 [a,b]=a.A.map z3a++b.A.map z3a:=by simp[zb3]
 have hrr:∀ r∈zb3 [a,b],r.length≤12∧∀ x∈r,0≤x.1∧x.1≤1114111∧0≤x.2∧x.2≤1114111:=fun r hr=>by
  rw[hrs,zAt] at hr
  rcases hr with hr|hr
  · exact hin a ha hla r hr
  · exact hin b hb hlb r hr
 obtain⟨hpts,hmem⟩:=zwc (L:=zb3 [a,b]) fun r hr=>(hrr r hr).2
 have hpl:(z8b (zb3 [a,b])).length≤1000:=by
  have h1:=zky (zb3 [a,b]) [0] 12 fun r hr=>(hrr r hr).1
  have h2:(zb3 [a,b]).length=a.A.length+b.A.length:=by rw[hrs];simp
  rw[h2] at h1
  rw[z8b]
  simp only[zAn] at h1
  omega
 have hap:∀ l∈a.A,∀ x∈l,x.1∈z8b (zb3 [a,b])∧(x.2.1+1≤1114111→x.2.1+1∈z8b (zb3 [a,b])):=fun l hl x hx =>
  hmem (z3a l) (by rw[hrs];exact List.mem_append_left _ (List.mem_map_of_mem hl)) (x.1,x.2.1) (by rw[z3a];exact List.mem_map.2 ⟨x,hx,rfl⟩)
 have hbp:∀ l∈b.A,∀ x∈l,x.1∈z8b (zb3 [a,b])∧(x.2.1+1≤1114111→x.2.1+1∈z8b (zb3 [a,b])):=fun l hl x hx =>
  hmem (z3a l) (by rw[hrs];exact List.mem_append_right _ (List.mem_map_of_mem hl)) (x.1,x.2.1) (by rw[z3a];exact List.mem_map.2 ⟨x,hx,rfl⟩)
 obtain⟨t,ht,htP,hT⟩:=zn1 ha hb (dec:=fun p q=>zxq p q op) hpts hap hbp
 have hfa:=ha.len
 have hfb:=hb.len
 have hsm:(a.F.length+1)*(b.F.length+1)≤21*21:=Nat.mul_le_mul (by omega) (by omega)
 have h46:=y1n a b op ha hb (by omega) (by omega) (fun l hl=>by have:=hla l hl;omega) (fun l hl=>by have:=hlb l hl;omega) hpl ((a.F.length+1)*(b.F.length+1)+1) (by omega) t ht
 have hW:=hT.w
 have hfew:=hT.few
 obtain⟨cl,h1,h2,h3,h4⟩:=zue hW
 have hlv:=(zhg hW).2
 have hst:=fun i hi=>y4m cl h2.len i hi
 obtain⟨m,m1,m2,m3,m4,m5⟩:=zqu hW h4 h3 hlv hst
 refine⟨t,m,h46,zo9 t hW (by omega) (by rw[htP];exact hpl) cl h1 h2.len _ _ (fun s hs=>?_) (fun s hs=>?_) m m1,m2,m3,Nat.le_trans m4 hfew,fun w=>by rw[m5,hT.acc]⟩
 · obtain⟨s1,s2⟩:=hst s hs
   exact(h4 _ _ s1 hs).1 s2 []
 · obtain⟨s1,s2⟩:=hst s hs
   exact zwg hW h4 hlv s1 hs s2
theorem zjo (a:Au) (hf:z57 a) (h:vAu a=0) (hW:AuW a) (hna:a.A.length≤20) (hla:∀ l∈a.A,l.length≤12) :
 ∃ m,z08 Tryz.prog 22 [.d (auD a)] (.tup [.d (auD m),I .i64 0])∧Nrm m∧∀ w,m.acc 0 w=a.acc 0 w:=by
 obtain⟨t,m,h46,h48,m1,_,_,m2⟩:=zzh a zcu 2 hW zq6 hna (by decide) hla (by decide)
 refine⟨m,?_,m1,fun w=>?_⟩
 · refine z0g fun H=>?_
   have hv:=z4g a hf
   rw[h] at hv
   have hno:=y66
   obtain⟨F,A⟩:=a
   refine z03 Tryz.func22 (by kernel_rfl) rfl (by simp) ?_
   dsimp only[Tryz.f22]
   repeat' (first|(apply z06;(refine z1i hv ?_))|(apply z0l;(first|refine z36 hno ?_| refine z36 h46 ?_| refine z36 h48 ?_))|(apply z0w;(refine z07 z2b ?_))|refine stq ?_|fail)
   all_goals try (exfalso;first|omega|(simp at *;done)|(simp at *;omega))
   all_goals exact z05 Tryz.func22 _ (z0i rfl rfl rfl rfl rfl rfl rfl) ⟨rfl,rfl⟩
 · rw[m2,z7p,zxq,zAy (by decide),zAz rfl,Bool.or_false]
   cases hx:a.acc 0 w with
   | false=>rw[Bool.and_false]
   | true=>rw[zfj hW w 0 hx];rfl
end Go.Proofs.YthdfkabdoidjfaaGreatDoor
