/- A part of the proof: L12 to L16. -/
import Derived.Test.YtmcggompdmngmaaGreatDoorWc
import Derived.Test.YtmcggompdmngmaaGreatDoorWe
import Derived.Test.YtmcggompdmngmaaGreatDoorW1
import Derived.Test.YtmcggompdmngmaaGreatDoorW2
import Derived.Test.YtmcggompdmngmaaGreatDoorWy
import Derived.Test.YtmcggompdmngmaaGreatDoorW3
import Derived.Test.YtmcggompdmngmaaGreatDoorWD
import Derived.Test.YtmcggompdmngmaaGreatDoorWv
import Derived.Test.YtmcggompdmngmaaGreatDoorWi
import Derived.Test.YtmcggompdmngmaaGreatDoorWd
import Derived.Test.YtmcggompdmngmaaGreatDoorWs
import Derived.Test.YtmcggompdmngmaaGreatDoorWh
set_option linter.all false
namespace Go.Proofs.YtmcggompdmngmaaGreatDoor
open Go.Ab Go.Rx Go.Lx Go.Ax
set_option maxHeartbeats 20000000
set_option maxRecDepth 100000
attribute [local irreducible] Run Ops Op1 z14 Val Tr z0d z0w NF Rel z1z z27 z5x
abbrev zvb (F:List Bool) (A:List (List Arc)) (L:List Bool):Blk:=.box [.d (zp9 F),.d (.slice (A.map zeh)),.d (zp9 L)]
theorem y8i:type_of% @ztb:=@ztb
theorem zgo:type_of% @ya8:=@ya8
theorem zzk (a:Au) (h:y4p a.F a.A) (H:Hf):Ab.Spec Tryz.prog 44 [.d (auD a)] H (fun r H'=>r=.new (zvb a.F a.A (z6e a.F a.A))∧H'=H):=by
 obtain⟨F,A⟩:=a
 change Ab.Spec Tryz.prog 44 [.d (.agg [zp9 F,.slice (A.map zeh)])] H (fun r H'=>r=.new (zvb F A (z6e F A))∧H'=H)
 refine z08 Tryz.func44 (by kernel_rfl) rfl (by simp) ?_
 dsimp only[Tryz.f44]
 have h1:=h.len
 have h2:=h.few
 simp only at h1 h2
 repeat' (first | (apply z9a; ((refine zcx mix (by kernel_rfl) ?_; refine zgo (by first | exact .inl rfl | exact .inr ⟨_, _, _, rfl, rfl, rfl⟩) ?_; refine y8i (e' := 4) rfl rfl rfl rfl (by decide) rfl (by simp) (fun y hy => by obtain ⟨b, _, rfl⟩ := List.mem_map.1 hy; rfl) ?_) /- t_copy -/)) | (apply z2n; (refine z0j z5k ?_)) | (apply zq5; (refine zvt rfl rfl rfl rfl rfl rfl (by decide) ?_)) | (apply zn5; ((refine zcx mix (by kernel_rfl) ?_) /- zt5 -/)) | (apply y36; (refine y74 (xs := (List.replicate F.length false).map boc) (by first | exact rfl | exact ⟨_, rfl, rfl, rfl⟩) rfl rfl (by omega) (by omega) rfl rfl rfl (by decide) (by simp) ?_)) | refine z05 ?_ | fail)
 all_goals try (exfalso;omega)
 refine z2i 13 2001 ?_
 refine z2i 15 2002 ?_
 have hAF:A.length=F.length:=h1
 have hrng:∀ l∈A,∀ x∈l,0≤x.2.2∧x.2.2<F.length:=fun l hl x hx=>((h.arc l hl).2.2 x hx).2.2.2
 have hll:∀ l∈A,l.length≤2000000:=fun l hl=>(h.arc l hl).2.1
 refine z0l ?_
 refine z01 (z0x (fun z:Bool × List Bool=>⟨65,[(1,.ptr (0,1) 0),(3,.ptr (0,2002) 0),(4,B z.1)],[(1,.box [.d (zp9 F),.d (.slice (A.map zeh))]),(2002,.box [.d (zp9 F),.d (.slice (A.map zeh)),.ref (0,2001)]),(2001,.row 4 1 (z.2.map boc))],H⟩)
  (fun z=>z.2.length=F.length∧(∀ q:Nat,z.2[q]? =some true→z5y F A q)∧leB F z.2∧(z.1=false→z.2=z6e F A)) (fun z=>if z.1=true then z.2.count false+1 else 0) ?_ (true,F) ⟨rfl,fun q hq=>.fin q hq,zgt F,fun h=>by cases h⟩) rfl rfl
 rintro⟨b,L0⟩ ⟨i1,i2,i3,i4⟩ ih
 simp only at i1 i2 i3 i4 ih ⊢
 cases b with
 | false =>
  rw[← i4 rfl]
  clear ih
  refine z13 2001 rfl ?_
  repeat' (first|refine z05 ?_|fail)
  all_goals try (exfalso;omega)
  all_goals exact z00 Tryz.func44 _ (zqb (ms:=2002) rfl rfl rfl rfl) ⟨rfl,rfl⟩
 | true =>
  have hP:=zxk (F:=F) A 0 (L0,false) (fun k l hk=>by rw[Nat.zero_add];exact hk) (by simp only;omega)
  have hM:=zlg hAF (L0.count false+1) L0 i1 (by omega) i2 i3
  rw[mkM] at hM
  have hfin:∀ s:List Bool × Bool,s=mkP 0 A (L0,false)→s.1.length=F.length∧(∀ q:Nat,s.1[q]? =some true→z5y F A q)∧leB F s.1∧(s.2=false→s.1=z6e F A)∧(if s.2=true then s.1.count false+1 else 0)<L0.count false+1:=fun s hs=>by
   rw[← hs] at hP hM
   refine⟨by rw[hP.len];exact i1,hP.sound i2,z9h i3 hP.le,fun e=>?_,?_⟩
   · rw[zAy (by rw[e];decide)] at hM;exact hM
   · split
     · rename_i e
       rcases hP.grow e with g|g
       · cases g
       · simp only at g;omega
     · omega
  clear hP hM i4
  simp only[if_true] at ih
  repeat' (first|refine z05 ?_|fail)
  all_goals try (exfalso;omega)
  refine z0l ?_
  refine z01 (z0x (fun z:Nat × List Bool × Bool=>⟨65,[(1,.ptr (0,1) 0),(3,.ptr (0,2002) 0),(4,B z.2.2),(25,.d (.slice (A.map zeh))),(26,I .i64 A.length),(27,I .i64 (z.1:Nat))],[(1,.box [.d (zp9 F),.d (.slice (A.map zeh))]),(2002,.box [.d (zp9 F),.d (.slice (A.map zeh)),.ref (0,2001)]),(2001,.row 4 1 (z.2.1.map boc))],H⟩)
   (fun z=>z.1≤A.length∧z.2.1.length=F.length∧mkP z.1 (A.drop z.1) z.2=mkP 0 A (L0,false)) (fun z=>A.length-z.1) ?_ (0,L0,false) ⟨zAf _,i1,rfl⟩) rfl rfl
  rintro⟨i,L1,m1⟩ ⟨j1,j2,j3⟩ ihi
  simp only at j1 j2 j3 ihi ⊢
  by_cases hlt:i<A.length
  · obtain⟨l,hl⟩:∃ l,A[i]? =some l:=⟨_,zA0 hlt⟩
    have hlr:=hrng l (zA2 hl)
    have hlm:=hll l (zA2 hl)
    rw[drop_cons hl,mkP] at j3
    repeat' (first|(apply z09;(refine z0c (z1n (ys:=A.map zeh) rfl (idx hl)) rfl rfl ?_))|refine z05 ?_|refine fk (fun _=>?_) (fun _=>?_))
    all_goals try (exfalso;omega)
    refine z0l ?_
    refine z01 (z0x (fun z:Nat × List Bool × Bool=>⟨65,[(1,.ptr (0,1) 0),(3,.ptr (0,2002) 0),(4,B z.2.2),(5,I .i64 (i:Nat)),(25,.d (.slice (A.map zeh))),(26,I .i64 A.length),(27,I .i64 (i:Nat)),(32,.d (y5k l)),(33,I .i64 l.length),(34,I .i64 (z.1:Nat))],[(1,.box [.d (zp9 F),.d (.slice (A.map zeh))]),(2002,.box [.d (zp9 F),.d (.slice (A.map zeh)),.ref (0,2001)]),(2001,.row 4 1 (z.2.1.map boc))],H⟩)
     (fun z=>z.1≤l.length∧z.2.1.length=F.length∧(l.drop z.1).foldl (mkA i) z.2=l.foldl (mkA i) (L1,m1)) (fun z=>l.length-z.1) ?_ (0,L1,m1) ⟨zAf _,j2,rfl⟩) rfl rfl
    rintro⟨j,L2,m2⟩ ⟨k1,k2,k3⟩ ihj
    simp only at k1 k2 k3 ihj ⊢
    by_cases hj:j<l.length
    · obtain⟨x,hx⟩:∃ x,l[j]? =some x:=⟨_,zA0 hj⟩
      obtain⟨x1,x2⟩:=hlr x (zA2 hx)
      have hLi:L2[i]? =some (L2.getD i false):=Go.Lx.getD_some (by omega)
      have hLx:L2[x.2.2.toNat]? =some (L2.getD x.2.2.toNat false):=Go.Lx.getD_some (by omega)
      rw[drop_cons hx,List.foldl_cons] at k3
      by_cases hc:L2.getD i false=false∧L2.getD x.2.2.toNat false=true
      · rw[mkA,zAz hc] at k3
        rw[hc.1] at hLi
        rw[hc.2] at hLx
        have ihj':=ihj (j+1,L2.set i true,true) ⟨by simp only;omega,by simp[k2],k3⟩ (by simp only;omega)
        simp only at ihj'
        clear ihj k3 hc
        repeat' (first|(apply z0e;(first|refine z0k (z0m hLi) rfl rfl ?_| refine z0k (z0m hLx) rfl rfl ?_))|(apply z09;(first|refine z0c (z1n (ys:=l.map zfk) rfl (idx hx)) rfl rfl ?_| refine z0c (z1m rfl (by rw[zA4];omega)) rfl rfl ?_))|(apply z06;(refine z0k (z1m rfl (by rw[zA4];omega)) rfl rfl ?_))|(apply z0o;(refine z7f true rfl rfl rfl rfl hLi rfl rfl rfl rfl ?_))|(apply z1w;(refine z0j z4e ?_))|refine z05 ?_|refine fk (fun _=>?_) (fun _=>?_))
        all_goals try (exfalso;first|omega|(simp at *;done))
        all_goals exact z01 ihj' rfl rfl
      · rw[mkA,zAy hc] at k3
        have ihj':=ihj (j+1,L2,m2) ⟨by simp only;omega,k2,k3⟩ (by simp only;omega)
        simp only at ihj'
        clear ihj k3
        generalize hb1:L2.getD i false=b1 at *
        generalize hb2:L2.getD x.2.2.toNat false=b2 at *
        clear hb1 hb2
        cases b1
        all_goals cases b2
        all_goals try (exfalso;exact hc ⟨rfl,rfl⟩)
        all_goals clear hc
        all_goals repeat' (first|(apply z0e;(first|refine z0k (z0m hLi) rfl rfl ?_| refine z0k (z0m hLx) rfl rfl ?_))|(apply z09;(refine z0c (z1n (ys:=l.map zfk) rfl (idx hx)) rfl rfl ?_))|(apply z06;(refine z0k (z1m rfl (by rw[zA4];omega)) rfl rfl ?_))|(apply z1w;(refine z0j z4e ?_))|refine z05 ?_|refine fk (fun _=>?_) (fun _=>?_))
        all_goals try (exfalso;first|omega|(simp at *;done))
        all_goals exact z01 ihj' rfl rfl
    · obtain rfl:j=l.length:=by omega
      rw[zAs,List.foldl_nil] at k3
      rw[← k3] at j3
      have ihi':=ihi (i+1,L2,m2) ⟨by simp only;omega,k2,j3⟩ (by simp only;omega)
      simp only at ihi'
      clear ihi ihj
      repeat' (first|refine z05 ?_|refine fk (fun _=>?_) (fun _=>?_))
      all_goals try (exfalso;omega)
      all_goals exact z01 ihi' rfl rfl
  · obtain rfl:i=A.length:=by omega
    rw[zAs,mkP] at j3
    obtain⟨f1,f2,f3,f4,f5⟩:=hfin (L1,m1) j3
    have ih':=ih (m1,L1) ⟨f1,f2,f3,f4⟩ f5
    clear ih ihi hfin
    all_goals exact zD121
def zyd (lv:List Bool) (c:Int):List Arc→Int
 | []=> -1
 | x::l=>if (x.1≤c∧c≤x.2.1)∧lv.getD x.2.2.toNat false=true then x.2.2 else zyd lv c l
theorem y0p (lv:List Bool) (c:Int):∀ {l:List Arc} {p:Option Arc},okA p l→zyd lv c l=if 0≤nxt l c∧lv.getD (nxt l c).toNat false=true then nxt l c else -1
 | [],_,_=>by simp[zyd,nxt]
 | x::l,p,h=>by
  rw[zyd,nxt]
  have ih:=y0p lv c h.2.2.2
  by_cases hr:x.1≤c∧c≤x.2.1
  · rw[zAz hr]
    by_cases hl:lv.getD x.2.2.toNat false=true
    · rw[zAz ⟨hr,hl⟩,zAz ⟨h.2.1,hl⟩]
    · rw[zAy (fun g=>hl g.2),zAy (fun g=>hl g.2),ih,zsi h.2.2.2 c hr.2]
      rw[zAy (fun g=>absurd g.1 (by decide))]
  · rw[zAy (fun g=>hr g.1),zAy hr,ih]
section
variable {X:Nat}
theorem zr9 (F:List Bool) (A:List (List Arc)) (L:List Bool) (h:y4p F A) (hL:L.length=F.length) (q:Nat) (hq:q<F.length) (c:Int) (e0:Nat) :
 z0w Tryz.prog 48 [.ptr (e0,X) 0,I .i64 (q:Nat),I .i32 c] [((e0,X),zvb F A L)] [] (I .i64 (stL ⟨F,A⟩ L q c)):=by
 refine z10 fun H hH=>?_
 have hX:=hH ((e0,X),zvb F A L) (by simp)
 have hAF:=h.len
 obtain⟨l,hl⟩:∃ l,A[q]? =some l:=⟨_,zA0 (by omega)⟩
 obtain⟨a1,a2,a3⟩:=h.arc l (zA2 hl)
 have hst:stL ⟨F,A⟩ L q c=zyd L c l:=by
  have e:Au.nx ⟨F,A⟩ (q:Nat) c=nxt l c:=by
   rw[Au.nx,Au.arcs,zAy (by omega),zA9,List.getD,hl];rfl
  rw[stL,e,y0p L c a1]
 rw[hst]
 refine z08 Tryz.func48 (by kernel_rfl) rfl (by simp) ?_
 dsimp only[Tryz.f48]
 repeat' (first|(apply z0i;(refine z2r hX ?_))|(apply z09;(refine z0c (z1n (ys:=A.map zeh) rfl (idx hl)) rfl rfl ?_))|refine z05 ?_|fail)
 all_goals try (exfalso;omega)
 refine z0l ?_
 refine z01 (z0x (fun j:Nat=>⟨45,[(0,.ptr (e0+1,X) 0),(2,I .i32 c),(16,.d (y5k l)),(17,I .i64 l.length),(18,I .i64 (j:Nat))],[],H⟩) (fun j=>j≤l.length∧zyd L c (l.drop j)=zyd L c l) (fun j=>l.length-j) ?_ 0 ⟨zAf _,rfl⟩) rfl rfl
 rintro j ⟨j1,j2⟩ ih
 by_cases hj:j<l.length
 · obtain⟨x,hx⟩:∃ x,l[j]? =some x:=⟨_,zA0 hj⟩
   have x1:=a3 x (zA2 hx)
   have hLx:L[x.2.2.toNat]? =some (L.getD x.2.2.toNat false):=Go.Lx.getD_some (by omega)
   rw[drop_cons hx,zyd] at j2
   generalize hb:L.getD x.2.2.toNat false=b at *
   clear hb
   by_cases hr:(x.1≤c∧c≤x.2.1)∧b=true
   · rw[zAz hr] at j2
     rw[← j2]
     obtain⟨⟨r1,r2⟩,rfl⟩:=hr
     clear ih
     repeat' (first|(apply z0e;(refine z4c hX ?_))|(apply z09;(refine z0c (z1n (ys:=l.map zfk) rfl (idx hx)) rfl rfl ?_))|(apply z06;(refine z0k (z1n (ys:=L.map boc) rfl (zhv (g:=boc) hLx)) rfl rfl ?_))|(apply z1w;(refine z0j z4e ?_))|refine z05 ?_|refine fk (fun _=>?_) (fun _=>?_)|(refine z16 (fun hg=>?_) (fun hg=>?_)<;> simp only[hg] <;> (try simp only[zA3,zA5,zA6,zA8] at hg)))
     all_goals try (exfalso;first|omega|(simp at *;done))
     all_goals exact zD94
   · rw[zAy hr] at j2
     have ih':=ih (j+1) ⟨by omega,j2⟩ (by omega)
     clear ih
     cases b
     all_goals repeat' (first|(apply z0e;(refine z4c hX ?_))|(apply z09;(refine z0c (z1n (ys:=l.map zfk) rfl (idx hx)) rfl rfl ?_))|(apply z06;(refine z0k (z1n (ys:=L.map boc) rfl (zhv (g:=boc) hLx)) rfl rfl ?_))|(apply z1w;(refine z0j z4e ?_))|refine z05 ?_|refine fk (fun _=>?_) (fun _=>?_)|(refine z16 (fun hg=>?_) (fun hg=>?_)<;> simp only[hg] <;> (try simp only[zA3,zA5,zA6,zA8] at hg)))
     all_goals try (exfalso;first|omega|(simp at *;done)|(simp at *;omega))
     all_goals exact z01 ih' rfl rfl
 · obtain rfl:j=l.length:=by omega
   rw[zAs,zyd] at j2
   rw[← j2]
   clear ih
   repeat' (first|refine z05 ?_|refine fk (fun _=>?_) (fun _=>?_))
   all_goals try (exfalso;omega)
   all_goals exact zD94
end
theorem y0c (c:Int):(Utf8.encode c).size=zE c:=by
 have:=z3t (Utf8.encode c)
 rw[z6s] at this
 rw[← this];rfl
theorem zj1 {s:ByteArray} (h:zbo s=true):∀ u∈rst s 0,u.n=zE u.r:=by
 have hs:=zcg h
 have hv':∀ c∈Go.Rx.z3l s,Utf8.valid c=true:=fun c hc=>zbz.1 (zb2 c hc)
 have e:=y2w hv'
 rw[← hs] at e
 rw[e]
 generalize Go.Rx.z3l s=l
 intro u hu
 induction l with
 | nil=>simp[mkU] at hu
 | cons c l ih =>
  rw[mkU] at hu
  rcases zAc.1 hu with rfl|hu
  · rfl
  · exact ih hu
theorem zqd {F:List Bool} {A:List (List Arc)} (h:y4p F A) (L:List Bool) (q:Nat) (hq:q<F.length) (c:Int) (hs:¬ stL ⟨F,A⟩ L q c<0):∃ p:Nat,stL ⟨F,A⟩ L q c=p∧p<F.length:=by
 have hAF:=h.len
 obtain⟨l,hl⟩:∃ l,A[q]? =some l:=⟨_,zA0 (by omega)⟩
 obtain⟨a1,a2,a3⟩:=h.arc l (zA2 hl)
 have e:Au.nx ⟨F,A⟩ (q:Nat) c=nxt l c:=by
  rw[Au.nx,Au.arcs,zAy (by omega),zA9,List.getD,hl];rfl
 rw[stL,e] at hs ⊢
 have key:∀ (m:List Arc),(∀ x∈m,0≤x.2.2∧x.2.2<F.length)→nxt m c<F.length:=fun m=>by
  induction m with
  | nil=>intro _;rw[nxt];omega
  | cons x m ih =>
   intro hm
   rw[nxt]
   split
   · exact(hm x (by simp)).2
   · exact ih fun y hy=>hm y (by simp[hy])
 have hk:=key l fun x hx=>by have:=a3 x hx;omega
 split
 · rename_i g;exact⟨(nxt l c).toNat,by omega,by omega⟩
 · rename_i g;rw[zAy g] at hs;omega
section
variable {X:Nat}
theorem y5y (F:List Bool) (A:List (List Arc)) (L:List Bool) (h:y4p F A) (hL:L.length=F.length) (w:ByteArray) (hv:zbo w=true) (hs:w.size≤100000) (e0:Nat) :
 z0w Tryz.prog 45 [.ptr (e0,X) 0,S w] [((e0,X),zvb F A L)] [] (.tup [B (zmk ⟨F,A⟩ L 0 (Go.Rx.z3l w) 0).1,I .i64 (zmk ⟨F,A⟩ L 0 (Go.Rx.z3l w) 0).2]):=by
 refine z10 fun H hH=>?_
 have hX:=hH ((e0,X),zvb F A L) (by simp)
 obtain⟨R,hR⟩:∃ R,zmk ⟨F,A⟩ L 0 (Go.Rx.z3l w) 0=R:=⟨_,rfl⟩
 rw[hR]
 have hpos:=h.pos
 refine z08 Tryz.func45 (by kernel_rfl) rfl (by simp) ?_
 dsimp only[Tryz.f45]
 repeat' (first|refine z05 ?_|(apply z1b;(refine z8t rfl rfl rfl (by decide) ?_)))
 all_goals try (exfalso;omega)
 refine z0l ?_
 refine z01 (z0x (fun z:Nat × Nat=>⟨34,[(0,.ptr (e0+1,X) 0),(6,I .i64 (z.2:Nat)),(10,.ptr (0,10) 0)],[(10,.siter w z.1)],H⟩)
  (fun z=>z.1≤w.size∧z.2<F.length∧(∀ u∈rst w z.1,u.n=zE u.r)∧zmk ⟨F,A⟩ L z.2 ((rst w z.1).map (·.r)) z.1=R) (fun z=>w.size-z.1) ?_ (0,0) ⟨zAf _,hpos,zj1 hv,hR⟩) rfl rfl
 rintro⟨i,q⟩ ⟨i1,i2,i3,i4⟩ ih
 simp only at i1 i2 i3 i4 ih ⊢
 by_cases hlt:i<w.size
 · have hd:=z3c hlt
   have hw:=z6i w i hlt
   have hdh:=zbn w i
   rw[hd] at i3 i4
   have hwz:=i3 _ (List.mem_cons_self ..)
   simp only at hwz
   rw[List.map_cons,zmk] at i4
   simp only at i4
   have hst:=zr9 (X:=X) F A L h hL q i2 ((Utf8.decode w i).1:Nat) (e0+1)
   have hes:=y0c ((Utf8.decode w i).1:Nat)
   by_cases hg:stL ⟨F,A⟩ L q ((Utf8.decode w i).1:Nat)<0
   · rw[zAz hg,← hes] at i4
     rw[← i4]
     clear ih
     generalize stL ⟨F,A⟩ L q ((Utf8.decode w i).1:Nat)=p at *
     repeat' (first|(apply z03;(refine z0s hst (z07 (m:=(e0+1,X)) hX z5h) ?_))|(apply z4q;(refine z0c (z6q rfl rfl) rfl rfl ?_))|refine z05 ?_|refine fk (fun _=>?_) (fun _=>?_)|(apply z1b;(refine z1s hlt rfl rfl (by decide) ?_)))
     all_goals exact zD84
   · rw[zAy hg] at i4
     obtain⟨p,hp1,hp2⟩:=zqd h L q i2 _ hg
     rw[hp1,← hwz] at i4
     rw[hp1] at hst
     have ih':=ih (i+(Utf8.decode w i).2,p) ⟨by simp only;omega,hp2,fun u hu=>i3 u (List.mem_cons_of_mem _ hu),i4⟩ (by simp only;omega)
     simp only at ih'
     clear ih hg hp1 i3 i4
     repeat' (first|(apply z03;(refine z0s hst (z07 (m:=(e0+1,X)) hX z5h) ?_))|refine z05 ?_|(apply z1b;(refine z1s hlt rfl rfl (by decide) ?_)))
     all_goals exact zD12
 · obtain rfl:i=w.size:=by omega
   rw[z29 (zAj _),List.map_nil,zmk] at i4
   have hf:F[q]? =some (F.getD q false):=Go.Lx.getD_some i2
   have hfin:Au.fin ⟨F,A⟩ (q:Nat)=F.getD q false:=by rw[Au.fin,zAy (by omega),zA9]
   rw[hfin] at i4
   rw[← i4]
   clear ih
   generalize F.getD q false=b at *
   repeat' (first|(apply z0i;(refine z2r hX ?_))|(apply z09;(refine z0c (z1n (ys:=F.map boc) rfl (idx (g:=boc) hf)) rfl rfl ?_))|refine z05 ?_|(apply z1b;(refine z2p hlt rfl rfl (by decide) ?_)))
   all_goals exact zD84
end
theorem zja:∀ (a b:List UInt8),(a.map UInt8.toNat).isPrefixOf (b.map UInt8.toNat)=a.isPrefixOf b
 | [],b=>by simp[List.isPrefixOf]
 | x::a,[]=>by simp[List.isPrefixOf]
 | x::a,y::b=>by
  rw[List.map_cons,List.map_cons,List.isPrefixOf,List.isPrefixOf,zja a b]
  congr 1
  rw[Bool.eq_iff_iff,beq_iff_eq,beq_iff_eq]
  exact⟨fun h=>UInt8.toNat.inj h,fun h=>by rw[h]⟩
theorem zxx (s p:ByteArray):z0d Tryz.prog 70 [S s,S p] (B (zgg p s)):=by
 refine z7x ⟨_,Tryz.func70,by kernel_rfl,by kernel_rfl⟩ fun β own w vals hA=>?_
 obtain⟨hl,ha⟩:=hA
 obtain⟨v,u,rfl⟩:∃ v u,vals=[v,u]:=by
  match vals,hl with
  | [v,u],_=>exact⟨v,u,rfl⟩
 have hv:=PR.lit (ha 0 _ v rfl rfl)
 have hu:=PR.lit (ha 1 _ u rfl rfl)
 subst hv hu
 have e:zgg p s=Lib.hasPrefix s.data.toList p.data.toList:=by rw[zgg,btN,btN,zja];rfl
 rw[e]
 exact⟨_,strings_HasPrefix s p w,fun w' own'=>PR.B _⟩
section
variable {X:Nat} {W:List ByteArray} (C:List Nat) (rv:D)
theorem y7z (e0:Nat) (w:ByteArray) (i:Nat) (hi:i<W.length):z0w Tryz.prog 68 [.d (.lit (.int .i64 (i:Nat))),.ptr (1,2) 0,.ptr (1,3) 0] [((1,2),.box [.ptr (e0+1,X) 0]),((1,3),.box [S w]),((e0+2,X),lexB W C rv)] [] (B (!ltS (wd W i) w)):=by
 refine z10 fun H hH=>?_
 have hA:=hH ((1,2),.box [.ptr (e0+1,X) 0]) (by simp)
 have hB:=hH ((1,3),.box [S w]) (by simp)
 have hX:=hH ((e0+2,X),lexB W C rv) (by simp)
 refine z08 Tryz.func68 (by kernel_rfl) rfl (by simp) ?_
 dsimp only[Tryz.f68]
 have hw:=z4l hi
 rw[← ze9]
 repeat' (first|(apply z0e;(first|refine z4c hX ?_| refine z4c hB ?_| refine z4c hA ?_))|(apply z06;(refine z0k (z1n (ys:=W.map stc) rfl (idx hw)) rfl rfl ?_))|refine z05 ?_|fail)
 all_goals ((repeat rw[z0a]);first|exact z00 Tryz.func68 _ (z04 rfl rfl rfl rfl rfl rfl rfl) ⟨rfl,rfl⟩|exact z00 Tryz.func68 _ z0z ⟨rfl,rfl⟩|exact z00 Tryz.func68 _ z11 ⟨rfl,rfl⟩|exact z00 Tryz.func68 _ z1h ⟨rfl,rfl⟩)
theorem y7a (e0:Nat) (p:ByteArray) (lo i:Nat) (hi:lo+i<W.length) (hl:W.length≤1000000):z0w Tryz.prog 69 [.d (.lit (.int .i64 (i:Nat))),.ptr (1,2) 0,.ptr (1,6) 0,.ptr (1,3) 0] [((1,2),.box [.ptr (e0+1,X) 0]),((1,6),.box [I .i64 (lo:Nat)]),((1,3),.box [S p]),((e0+2,X),lexB W C rv)] [] (B (!zgg p (wd W (lo+i)))):=by
 refine z10 fun H hH=>?_
 have hA:=hH ((1,2),.box [.ptr (e0+1,X) 0]) (by simp)
 have hL:=hH ((1,6),.box [I .i64 (lo:Nat)]) (by simp)
 have hB:=hH ((1,3),.box [S p]) (by simp)
 have hX:=hH ((e0+2,X),lexB W C rv) (by simp)
 have hw:=z4l hi
 have hpr:=zxx (wd W (lo+i)) p
 generalize wd W (lo+i)=w at *
 refine z08 Tryz.func69 (by kernel_rfl) rfl (by simp) ?_
 dsimp only[Tryz.f69]
 have hw':W[(((lo:Nat):Int)+((i:Nat):Int)).toNat]? =some w:=by rw[show (((lo:Nat):Int)+((i:Nat):Int)).toNat=lo+i by omega];exact hw
 repeat' (first|(apply z0e;(first|refine z4c hX ?_| refine z4c hL ?_| refine z4c hB ?_| refine z4c hA ?_))|(apply z06;(refine z0k (z1n (ys:=W.map stc) rfl (zhv hw')) rfl rfl ?_))|(apply z0p;(refine z4s hpr ?_))|refine z05 ?_|fail)
 all_goals ((repeat rw[z0a]);first|exact z00 Tryz.func69 _ (z04 rfl rfl rfl rfl rfl rfl rfl) ⟨rfl,rfl⟩|exact z00 Tryz.func69 _ z0z ⟨rfl,rfl⟩|exact z00 Tryz.func69 _ z11 ⟨rfl,rfl⟩|exact z00 Tryz.func69 _ z1h ⟨rfl,rfl⟩)
theorem zvz (e0:Nat) (h:zbu W) (hl:W.length≤1000000) (p:ByteArray):z0w Tryz.prog 31 [.ptr (e0,X) 0,S p] [((e0,X),lexB W C rv)] [] (.tup [I .i64 ((zs9 W p).1:Nat),I .i64 ((zs9 W p).2:Nat)]):=by
 refine z10 fun H hH=>?_
 have hX:=hH ((e0,X),lexB W C rv) (by simp)
 have hse:=zi0 (X:=X) C rv e0 h hl p 68 (fun i hi=>y7z C rv e0 p i hi)
 have hlo:=lo_le h p
 have hcn:zjm W p≤W.length-loS W p:=(z3y _ _).1
 have hs2:z0w Tryz.prog 67 [I .i64 ((W.length:Int)-(loS W p:Nat)),.fn (.func 69) [] [.ptr (0,2) 0,.ptr (0,6) 0,.ptr (0,3) 0]] [((0,2),.box [.ptr (e0+1,X) 0]),((0,6),.box [I .i64 (loS W p:Nat)]),((0,3),.box [S p]),((e0+1,X),lexB W C rv)] [] (I .i64 (zjm W p:Nat)):=by
  rw[show (W.length:Int)-(loS W p:Nat)=((W.length-loS W p:Nat):Int) by omega]
  refine z10 fun H hH=>?_
  have hA:=hH ((0,2),.box [.ptr (e0+1,X) 0]) (by simp)
  have hL:=hH ((0,6),.box [I .i64 (loS W p:Nat)]) (by simp)
  have hB:=hH ((0,3),.box [S p]) (by simp)
  have hX:=hH ((e0+1,X),lexB W C rv) (by simp)
  refine zgh (W.length-loS W p) (by omega) 69 [.ptr (0,2) 0,.ptr (0,6) 0,.ptr (0,3) 0] [((1,2),.box [.ptr (e0+1,X) 0]),((1,6),.box [I .i64 (loS W p:Nat)]),((1,3),.box [S p]),((e0+2,X),lexB W C rv)] (fun k=>!zgg p (wd W (loS W p+k))) (fun i j hij hj hi=>?_) H (fun i hi=>y7a C rv e0 p (loS W p) i (by omega) hl) (fun n tm hp=>by simp[BkE,z3m,push,hA,hL,hB,hX])
  simp only[zA6] at hi ⊢
  cases e:zgg p (wd W (loS W p+j)) with
  | false=>rfl
  | true =>
   have h1:=(zg0 h p (by omega)).1 e
   have h2:=(zg0 h p (i:=loS W p+i) (by omega)).2 ⟨by omega,by omega⟩
   rw[h2] at hi;cases hi
 rw[zs9]
 generalize loS W p=lo at *
 generalize zjm W p=n at *
 refine z08 Tryz.func31 (by kernel_rfl) rfl (by simp) ?_
 dsimp only[Tryz.f31]
 have hbk:∀ (n:Nat) (tm:List (Nat × PV)),BkE ⟨n,tm,[(3,.box [S p]),(2,.box [.ptr (e0+1,X) 0])],H⟩ [((0,2),.box [.ptr (e0+1,X) 0]),((0,3),.box [S p]),((e0+1,X),lexB W C rv)]:=fun n tm=>by simp[BkE,z3m,push,Ab.look,hX]
 have hb6:∀ (n:Nat) (tm:List (Nat × PV)) (hp:Hp),Ab.look hp 2=some (.box [.ptr (e0+1,X) 0])→Ab.look hp 6=some (.box [I .i64 (lo:Nat)])→Ab.look hp 3=some (.box [S p])→BkE ⟨n,tm,hp,H⟩ [((0,2),.box [.ptr (e0+1,X) 0]),((0,6),.box [I .i64 (lo:Nat)]),((0,3),.box [S p]),((e0+1,X),lexB W C rv)]:=fun n tm hp h2 h6 h3=>by simp[BkE,z3m,push,h2,h6,h3,hX]
 by_cases hn:n=0
 · subst hn
   rw[zAz rfl]
   repeat' (first|(apply z1b;(refine z9k rfl rfl (by decide) ?_))|(apply zpa;(refine zfg (by first|exact rfl|exact⟨_,rfl,rfl,rfl⟩) rfl rfl (by decide) ?_))|(apply z0i;(refine z2r hX ?_))|(apply z0e;(refine z4c hX ?_))|(apply z03;(refine z0s hse (hbk _ _) ?_))|(apply z0p;(refine z9v hs2 (by first|exact rfl|exact⟨_,rfl,rfl,rfl⟩) rfl (hb6 _ _ _ rfl rfl rfl) (by decide) ?_))|(apply z2n;(refine z0j z5k ?_))|refine z05 ?_|fail)
   all_goals exact zD155
 · rw[zAy hn]
   repeat' (first|(apply z1b;(refine z9k rfl rfl (by decide) ?_))|(apply zpa;(refine zfg (by first|exact rfl|exact⟨_,rfl,rfl,rfl⟩) rfl rfl (by decide) ?_))|(apply z0i;(refine z2r hX ?_))|(apply z0e;(refine z4c hX ?_))|(apply z03;(refine z0s hse (hbk _ _) ?_))|(apply z0p;(refine z9v hs2 (by first|exact rfl|exact⟨_,rfl,rfl,rfl⟩) rfl (hb6 _ _ _ rfl rfl rfl) (by decide) ?_))|(apply z2n;(refine z0j z5k ?_))|refine z05 ?_|refine fk (fun _=>?_) (fun _=>?_))
   all_goals exact zD155
end
theorem zye {F:List Bool} {A:List (List Arc)} (h:A.length=F.length) {q:Nat} (hl:z5y F A q):q<F.length:=by
 cases hl with
 | fin q h1=>exact(zA1.1 h1).1
 | arc q l x h1 h2 h3=>rw[← h];exact(zA1.1 h1).1
theorem y1g {a:Au} (h:AuW a) (q:Nat) (hq:(z6e a.F a.A).getD q false=false) (w:List Int):a.acc (q:Nat) w=false:=by
 cases e:a.acc (q:Nat) w with
 | false=>rfl
 | true =>
  have hl:=ziu h w q e
  rw[(zy2 (zye h.len hl)).2 hl] at hq;cases hq
def z61 (f:Nat→Bool) (n:Nat):List Int:=(sel f n).map fun (i:Nat)=>(i:Int)
def y51 (W:List ByteArray) (a:Au):PV:=if vAu a=0 then .tup [.d (inD (z61 (fun i=>a.acc 0 (Go.Rx.z3l (wd W i))) W.length)),I .i64 0] else .tup [.d (inD []),I .i64 1]
theorem zzl (l:List Nat):inD (l.map fun (i:Nat)=>(i:Int))=.slice (l.map nmc):=by rw[inD,List.map_map];rfl
structure zp7 (W:List ByteArray):Prop where
 asc:zbu W
 len:W.length≤5000
 vld:∀ w∈W,zbo w=true
 size:∀ w∈W,w.size≤1000
section
variable {X:Nat}
theorem zmd (W:List ByteArray) (C:List Nat) (rv:D) (hW:zp7 W) (a:Au) (hf:y8f a) (e0:Nat):z0w Tryz.prog 14 [.ptr (e0,X) 0,.d (auD a)] [((e0,X),lexB W C rv)] [] (y51 W a):=by
 refine z10 fun H hH=>?_
 have hX:=hH ((e0,X),lexB W C rv) (by simp)
 have hva:=ztt a hf
 refine z08 Tryz.func14 (by kernel_rfl) rfl (by simp) ?_
 dsimp only[Tryz.f14]
 by_cases h0:vAu a=0
 case neg =>
  rw[y51,zAy h0]
  generalize vAu a=v at *
  obtain⟨F,A⟩:=a
  repeat' (first|(apply z03;(refine z1i hva ?_))|(apply z2n;(refine z0j z5k ?_))|refine z05 ?_|refine fk (fun _=>?_) (fun _=>?_))
  all_goals try (exfalso;omega)
  all_goals refine y0u 4 rfl ?_
  all_goals exact z00 Tryz.func14 _ z0z ⟨rfl,rfl⟩
 rw[h0] at hva
 rw[y51,zAz h0]
 have hok:=(zh4 h0).1
 have hw:=y61 h0
 have hno:=y1g hw
 have hll:=zmc a.F a.A
 have hnm:=zzk a hok
 obtain⟨f,hfd⟩:∃ f:Nat→Bool,(fun i=>a.acc 0 (Go.Rx.z3l (wd W i)))=f:=⟨_,rfl⟩
 have hfi:∀ i,f i=a.acc 0 (Go.Rx.z3l (wd W i)):=fun i=>by rw[← hfd]
 rw[hfd]
 clear hfd
 obtain⟨L,hL⟩:∃ L,z6e a.F a.A=L:=⟨_,rfl⟩
 rw[hL] at hno hll hnm
 have hmr:=fun (w:ByteArray) (hv:zbo w=true) (hs:w.size≤100000)=>y5y (X:=17) a.F a.A L hok hll w hv hs 0
 have hpos:=hok.pos
 obtain⟨F,A⟩:=a
 simp only at hnm hll hpos hmr hL hok
 have hspec:=fun (w:ByteArray)=>ze0 (a:=⟨F,A⟩) hno (Go.Rx.z3l w) 0 0
 have hdead:=fun (w w':ByteArray) (h1:zbo w=true) (h2:zbo w'=true) (d:Nat)=>zwb (a:=⟨F,A⟩) (w:=w) (w':=w') hno h1 h2 (d:=d)
 have hL0:L[(0:Int).toNat]? =some (L.getD 0 false):=Go.Lx.getD_some (by show 0<L.length;omega)
 have hz:L.getD 0 false=false→sel f W.length=[]:=fun h=>by
  rw[zc8 (n:=0) (zAf _) fun i _ _=>by rw[hfi];exact hno 0 h _];rfl
 have hsz:=zhx (X:=X) W C rv (e0+1)
 have hwo:=fun (i:Nat) (hi:i<W.length)=>zla (X:=X) W C rv (e0+1) i hi
 have hpf:=fun (p:ByteArray)=>zvz (X:=X) (W:=W) C rv (e0+1) hW.asc (by have:=hW.len;omega) p
 have hWl:=hW.len
 repeat' (first | (apply z03; (first | refine z1i hva ?_| (refine zba rfl (hnm _) (by decide) rfl (fun r H' h => ⟨_, h.1, h.2, rfl, rfl, ?_⟩)) /- z5r -/)) | (apply z2n; (refine z0j z5k ?_)) | refine z05 ?_ | fail)
 all_goals try (exfalso;omega)
 refine z1t 7 1000 3 1 rfl rfl rfl ?_
 refine z0l ?_
 refine z01 (z0x (fun z:Nat × List Nat=>⟨60,[(0,.ptr (e0+1,X) 0),(6,.ptr (0,17) 0),(7,.ref (0,1000)),(8,I .i64 (z.1:Nat))],[(17,zvb F A L),(1000,.row 3 1 (z.2.map nmc))],H⟩) (fun z=>z.1≤W.length∧z.2=sel f z.1) (fun z=>W.length-z.1) ?_ (0,[]) ⟨zAf _,rfl⟩) rfl rfl
 rintro⟨n,out⟩ ⟨i1,i2⟩ ih
 simp only at i1 i2 ih ⊢
 have hol:out.length≤n:=by rw[i2];exact zkr f n
 have hbX:∀ (n:Nat) (tm:List (Nat × PV)) (hp:Hp),BkE ⟨n,tm,hp,H⟩ [((e0+1,X),lexB W C rv)]:=fun n tm hp=>z07 (m:=(e0+1,X)) hX z5h
 by_cases hl0:L.getD 0 false=true
 case neg =>
  rw[Bool.not_eq_true] at hl0
  rw[z61,hz hl0]
  have hz2:out=[]:=by
   rw[i2,zc8 (n:=0) (zAf _) fun i _ _=>by rw[hfi];exact hno 0 hl0 _];rfl
  subst hz2
  rw[hl0] at hL0
  clear ih
  refine z13 1000 rfl ?_
  repeat' (first|(apply z09;(refine z0c (z1n (ys:=L.map boc) rfl (idx (g:=boc) hL0)) rfl rfl ?_))|refine z05 ?_|fail)
  all_goals try (exfalso;omega)
  all_goals exact z00 Tryz.func14 _ z0z ⟨rfl,rfl⟩
 rw[hl0] at hL0
 by_cases hlt:n<W.length
 · have hwd:=hwo n hlt
   have hvw:=hW.vld _ (z7j hlt)
   have hsw:=hW.size _ (z7j hlt)
   have hm:=hmr (wd W n) hvw (by omega)
   have hsp:=hspec (wd W n)
   have hde:=fun (w':ByteArray) (h2:zbo w'=true) (d:Nat)=>hdead (wd W n) w' hvw h2 d
   have hfn:=hfi n
   generalize zmk ⟨F,A⟩ L 0 (Go.Rx.z3l (wd W n)) 0=r at *
   obtain⟨acc,dead⟩:=r
   simp only at hm hsp hde
   have hwn:=z4l hlt
   by_cases hd:0<dead
   · obtain⟨u,v,e1,e2,e3,e4⟩:=hsp.2 hd
     have hdl:dead≤(wd W n).size:=by
      have hb:=yam hvw
      have h1:=z3t (wd W n)
      rw[hb,e1,zke,zAa] at h1
      omega
     have hpre:btN ((wd W n).extract 0 dead)=(btN (wd W n)).take dead:=zjt _ _
     have hps:zgg ((wd W n).extract 0 dead) (wd W n)=true:=z9w.2 (by rw[hpre];exact List.take_prefix _ _)
     obtain⟨p1,p2,p3⟩:=zxb hW.asc ((wd W n).extract 0 dead) hlt hps
     have hp:=hpf ((wd W n).extract 0 dead)
     have hskip:sel f (zs9 W ((wd W n).extract 0 dead)).2=sel f n:=zc8 (by omega) fun i g1 g2=>by
      have h3:=z9w.1 (p3 i g1 g2)
      rw[hpre] at h3
      rw[hfi]
      exact hde (wd W i) (hW.vld _ (z7j (by omega))) dead rfl hd h3
     have ih':=ih ((zs9 W ((wd W n).extract 0 dead)).2,out) ⟨by simp only;omega,by simp only;rw[hskip];exact i2⟩ (by simp only;omega)
     simp only at ih'
     clear ih hskip p3 hde hsp
     generalize (zs9 W ((wd W n).extract 0 dead)).1=m1 at *
     generalize (zs9 W ((wd W n).extract 0 dead)).2=m2 at *
     generalize wd W n=w at *
     repeat' (first|(apply z09;(refine z0c (z1n (ys:=L.map boc) rfl (idx (g:=boc) hL0)) rfl rfl ?_))|(apply zam;(refine z0c (z9p rfl (by omega) (by omega)) rfl rfl ?_))|(apply z03;(first|refine z0s hp (hbX _ _ _) ?_| refine z7u hm rfl (z07 (m:=(0,17)) rfl z5h) (by decide) ?_|refine z0s hwd (hbX _ _ _) ?_| refine z0s hsz (hbX _ _ _) ?_))|refine z05 ?_|refine fk (fun _=>?_) (fun _=>?_))
     all_goals exact zD12
   · have hd0:dead=0:=by omega
     have ha:=hsp.1 hd0
     rw[← hfn] at ha
     subst hd0
     have ih':=ih (n+1,out++if acc=true then [n] else []) ⟨by simp only;omega,by simp only;rw[z6z,← i2,ha]⟩ (by simp only;omega)
     simp only at ih'
     clear ih hde hsp hfn
     generalize wd W n=w at *
     cases acc with
     | true =>
      rw[zAz rfl] at ih'
      repeat' (first|(apply z09;(refine z0c (z1n (ys:=L.map boc) rfl (idx (g:=boc) hL0)) rfl rfl ?_))|(apply z1q;(refine z47 (g:=nmc) n rfl ?_))|(apply z03;(first|refine z7u hm rfl (z07 (m:=(0,17)) rfl z5h) (by decide) ?_|refine z0s hwd (hbX _ _ _) ?_| refine z0s hsz (hbX _ _ _) ?_))|refine z05 ?_|refine fk (fun _=>?_) (fun _=>?_))
      all_goals try (exfalso;omega)
      refine z2i 56 1000 ?_
      exact z01 ih' rfl rfl
     | false =>
      rw[zAy (by decide),List.append_nil] at ih'
      repeat' (first|(apply z09;(refine z0c (z1n (ys:=L.map boc) rfl (idx (g:=boc) hL0)) rfl rfl ?_))|(apply z03;(first|refine z7u hm rfl (z07 (m:=(0,17)) rfl z5h) (by decide) ?_|refine z0s hwd (hbX _ _ _) ?_| refine z0s hsz (hbX _ _ _) ?_))|refine z05 ?_|refine fk (fun _=>?_) (fun _=>?_))
      all_goals exact zD12
 · obtain rfl:n=W.length:=by omega
   rw[z61,← i2,zzl]
   clear ih
   refine z13 1000 rfl ?_
   repeat' (first|(apply z09;(refine z0c (z1n (ys:=L.map boc) rfl (idx (g:=boc) hL0)) rfl rfl ?_))|(apply z03;(refine z0s hsz (hbX _ _ _) ?_))|refine z05 ?_|refine fk (fun _=>?_) (fun _=>?_))
   all_goals try (exfalso;omega)
   all_goals exact z00 Tryz.func14 _ z0z ⟨rfl,rfl⟩
end
end Go.Proofs.YtmcggompdmngmaaGreatDoor
