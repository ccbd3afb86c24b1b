/- A part of the proof: L12 to L16. -/
import Derived.Test.YtmcggompdmngmaaGreatDoorYc
import Derived.Test.YtmcggompdmngmaaGreatDoorYe
import Derived.Test.YtmcggompdmngmaaGreatDoorY1
import Derived.Test.YtmcggompdmngmaaGreatDoorY2
import Derived.Test.YtmcggompdmngmaaGreatDoorY3
import Derived.Test.YtmcggompdmngmaaGreatDoorYy
import Derived.Test.YtmcggompdmngmaaGreatDoorYD
import Derived.Test.YtmcggompdmngmaaGreatDoorYv
import Derived.Test.YtmcggompdmngmaaGreatDoorYi
import Derived.Test.YtmcggompdmngmaaGreatDoorYd
import Derived.Test.YtmcggompdmngmaaGreatDoorYs
import Derived.Test.YtmcggompdmngmaaGreatDoorYh
set_option linter.all false
namespace Go.Proofs.YtmcggompdmngmaaGreatDoor
open Go.Ab Go.Rx Go.Lx Go.Ax
set_option maxHeartbeats 20000000
set_option maxRecDepth 100000
attribute [local irreducible] Run Ops Op1 z0u Val Tr z09 z0q NF Rel z1v z1u z5p
abbrev zxo (F:List Bool) (A:List (List Arc)) (L:List Bool):Blk:=.box [.d (zpi F),.d (.slice (A.map ze4)),.d (zpi L)]
theorem y76:type_of% @zpu:=@zpu
theorem zgo:type_of% @yc1:=@yc1
theorem zzx (a:Au) (h:y67 a.F a.A) (H:Hf):Ab.Spec Tryz.prog 44 [.d (auD a)] H (fun r H'=>r=.new (zxo a.F a.A (z6a a.F a.A))∧H'=H):=by
 obtain⟨F,A⟩:=a
 change Ab.Spec Tryz.prog 44 [.d (.agg [zpi F,.slice (A.map ze4)])] H (fun r H'=>r=.new (zxo F A (z6a F A))∧H'=H)
 refine z06 Tryz.func44 (by kernel_rfl) rfl (by simp) ?_
 dsimp only[Tryz.f44]
 have h1:=h.len
 have h2:=h.few
 simp only at h1 h2
 repeat' (first | (apply z97; ((refine z5k mix (by kernel_rfl) ?_; refine zgo (by first | exact .inl rfl | exact .inr ⟨_, _, _, rfl, rfl, rfl⟩) ?_; refine y76 (e' := 4) rfl rfl rfl rfl (by decide) rfl (by simp) (fun y hy => by obtain ⟨b, _, rfl⟩ := List.mem_map.1 hy; rfl) ?_) /- t_copy -/)) | (apply z2c; (refine z0h z4x ?_)) | (apply zpr; (refine zve rfl rfl rfl rfl rfl rfl (by decide) ?_)) | (apply zm8; ((refine z5k mix (by kernel_rfl) ?_) /- zs6 -/)) | (apply y50; (refine y8n (xs := (List.replicate F.length false).map boc) (by first | exact rfl | exact ⟨_, rfl, rfl, rfl⟩) rfl rfl (by omega) (by omega) rfl rfl rfl (by decide) (by simp) ?_)) | refine z01 ?_ | fail)
 all_goals try (exfalso;omega)
 refine z2y 13 2001 ?_
 refine z2y 15 2002 ?_
 have hAF:A.length=F.length:=h1
 have hrng:∀ l∈A,∀ x∈l,0≤x.2.2∧x.2.2<F.length:=fun l hl x hx=>((h.arc l hl).2.2 x hx).2.2.2
 have hll:∀ l∈A,l.length≤2000000:=fun l hl=>(h.arc l hl).2.1
 refine z0d ?_
 refine z00 (z0p (fun z:Bool × List Bool=>⟨65,[(1,.ptr (0,1) 0),(3,.ptr (0,2002) 0),(4,B z.1)],[(1,.box [.d (zpi F),.d (.slice (A.map ze4))]),(2002,.box [.d (zpi F),.d (.slice (A.map ze4)),.ref (0,2001)]),(2001,.row 4 1 (z.2.map boc))],H⟩)
  (fun z=>z.2.length=F.length∧(∀ q:Nat,z.2[q]? =some true→z5m F A q)∧leB F z.2∧(z.1=false→z.2=z6a F A)) (fun z=>if z.1=true then z.2.count false+1 else 0) ?_ (true,F) ⟨rfl,fun q hq=>.fin q hq,zg7 F,fun h=>by cases h⟩) rfl rfl
 rintro⟨b,L0⟩ ⟨i1,i2,i3,i4⟩ ih
 simp only at i1 i2 i3 i4 ih ⊢
 cases b with
 | false =>
  rw[← i4 rfl]
  clear ih
  refine z0z 2001 rfl ?_
  repeat' (first|refine z01 ?_|fail)
  all_goals try (exfalso;omega)
  all_goals exact z02 Tryz.func44 _ (zqu (ms:=2002) rfl rfl rfl rfl) ⟨rfl,rfl⟩
 | true =>
  have hP:=zvm (F:=F) A 0 (L0,false) (fun k l hk=>by rw[Nat.zero_add];exact hk) (by simp only;omega)
  have hM:=znh hAF (L0.count false+1) L0 i1 (by omega) i2 i3
  rw[mkM] at hM
  have hfin:∀ s:List Bool × Bool,s=mkP 0 A (L0,false)→s.1.length=F.length∧(∀ q:Nat,s.1[q]? =some true→z5m F A q)∧leB F s.1∧(s.2=false→s.1=z6a F A)∧(if s.2=true then s.1.count false+1 else 0)<L0.count false+1:=fun s hs=>by
   rw[← hs] at hP hM
   refine⟨by rw[hP.len];exact i1,hP.sound i2,z9p i3 hP.le,fun e=>?_,?_⟩
   · rw[zAy (by rw[e];decide)] at hM;exact hM
   · split
     · rename_i e
       rcases hP.grow e with g|g
       · cases g
       · simp only at g;omega
     · omega
  clear hP hM i4
  simp only[if_true] at ih
  repeat' (first|refine z01 ?_|fail)
  all_goals try (exfalso;omega)
  refine z0d ?_
  refine z00 (z0p (fun z:Nat × List Bool × Bool=>⟨65,[(1,.ptr (0,1) 0),(3,.ptr (0,2002) 0),(4,B z.2.2),(25,.d (.slice (A.map ze4))),(26,I .i64 A.length),(27,I .i64 (z.1:Nat))],[(1,.box [.d (zpi F),.d (.slice (A.map ze4))]),(2002,.box [.d (zpi F),.d (.slice (A.map ze4)),.ref (0,2001)]),(2001,.row 4 1 (z.2.1.map boc))],H⟩)
   (fun z=>z.1≤A.length∧z.2.1.length=F.length∧mkP z.1 (A.drop z.1) z.2=mkP 0 A (L0,false)) (fun z=>A.length-z.1) ?_ (0,L0,false) ⟨zAf _,i1,rfl⟩) rfl rfl
  rintro⟨i,L1,m1⟩ ⟨j1,j2,j3⟩ ihi
  simp only at j1 j2 j3 ihi ⊢
  by_cases hlt:i<A.length
  · obtain⟨l,hl⟩:∃ l,A[i]? =some l:=⟨_,zA0 hlt⟩
    have hlr:=hrng l (zA2 hl)
    have hlm:=hll l (zA2 hl)
    rw[drop_cons hl,mkP] at j3
    repeat' (first|(apply z04;(refine z08 (z1f (ys:=A.map ze4) rfl (idx hl)) rfl rfl ?_))|refine z01 ?_|refine fk (fun _=>?_) (fun _=>?_))
    all_goals try (exfalso;omega)
    refine z0d ?_
    refine z00 (z0p (fun z:Nat × List Bool × Bool=>⟨65,[(1,.ptr (0,1) 0),(3,.ptr (0,2002) 0),(4,B z.2.2),(5,I .i64 (i:Nat)),(25,.d (.slice (A.map ze4))),(26,I .i64 A.length),(27,I .i64 (i:Nat)),(32,.d (y6w l)),(33,I .i64 l.length),(34,I .i64 (z.1:Nat))],[(1,.box [.d (zpi F),.d (.slice (A.map ze4))]),(2002,.box [.d (zpi F),.d (.slice (A.map ze4)),.ref (0,2001)]),(2001,.row 4 1 (z.2.1.map boc))],H⟩)
     (fun z=>z.1≤l.length∧z.2.1.length=F.length∧(l.drop z.1).foldl (mkA i) z.2=l.foldl (mkA i) (L1,m1)) (fun z=>l.length-z.1) ?_ (0,L1,m1) ⟨zAf _,j2,rfl⟩) rfl rfl
    rintro⟨j,L2,m2⟩ ⟨k1,k2,k3⟩ ihj
    simp only at k1 k2 k3 ihj ⊢
    by_cases hj:j<l.length
    · obtain⟨x,hx⟩:∃ x,l[j]? =some x:=⟨_,zA0 hj⟩
      obtain⟨x1,x2⟩:=hlr x (zA2 hx)
      have hLi:L2[i]? =some (L2.getD i false):=Go.Lx.getD_some (by omega)
      have hLx:L2[x.2.2.toNat]? =some (L2.getD x.2.2.toNat false):=Go.Lx.getD_some (by omega)
      rw[drop_cons hx,List.foldl_cons] at k3
      by_cases hc:L2.getD i false=false∧L2.getD x.2.2.toNat false=true
      · rw[mkA,zAz hc] at k3
        rw[hc.1] at hLi
        rw[hc.2] at hLx
        have ihj':=ihj (j+1,L2.set i true,true) ⟨by simp only;omega,by simp[k2],k3⟩ (by simp only;omega)
        simp only at ihj'
        clear ihj k3 hc
        repeat' (first|(apply z0c;(first|refine z0f (z0i hLi) rfl rfl ?_| refine z0f (z0i hLx) rfl rfl ?_))|(apply z04;(first|refine z08 (z1f (ys:=l.map zf4) rfl (idx hx)) rfl rfl ?_| refine z08 (z1c rfl (by rw[zA4];omega)) rfl rfl ?_))|(apply z05;(refine z0f (z1c rfl (by rw[zA4];omega)) rfl rfl ?_))|(apply z1q;(refine z7i true rfl rfl rfl rfl hLi rfl rfl rfl rfl ?_))|(apply z2d;(refine z0h z5o ?_))|refine z01 ?_|refine fk (fun _=>?_) (fun _=>?_))
        all_goals try (exfalso;first|omega|(simp at *;done))
        all_goals exact z00 ihj' rfl rfl
      · rw[mkA,zAy hc] at k3
        have ihj':=ihj (j+1,L2,m2) ⟨by simp only;omega,k2,k3⟩ (by simp only;omega)
        simp only at ihj'
        clear ihj k3
        generalize hb1:L2.getD i false=b1 at *
        generalize hb2:L2.getD x.2.2.toNat false=b2 at *
        clear hb1 hb2
        cases b1
        all_goals cases b2
        all_goals try (exfalso;exact hc ⟨rfl,rfl⟩)
        all_goals clear hc
        all_goals repeat' (first|(apply z0c;(first|refine z0f (z0i hLi) rfl rfl ?_| refine z0f (z0i hLx) rfl rfl ?_))|(apply z04;(refine z08 (z1f (ys:=l.map zf4) rfl (idx hx)) rfl rfl ?_))|(apply z05;(refine z0f (z1c rfl (by rw[zA4];omega)) rfl rfl ?_))|(apply z2d;(refine z0h z5o ?_))|refine z01 ?_|refine fk (fun _=>?_) (fun _=>?_))
        all_goals try (exfalso;first|omega|(simp at *;done))
        all_goals exact z00 ihj' rfl rfl
    · obtain rfl:j=l.length:=by omega
      rw[zAs,List.foldl_nil] at k3
      rw[← k3] at j3
      have ihi':=ihi (i+1,L2,m2) ⟨by simp only;omega,k2,j3⟩ (by simp only;omega)
      simp only at ihi'
      clear ihi ihj
      repeat' (first|refine z01 ?_|refine fk (fun _=>?_) (fun _=>?_))
      all_goals try (exfalso;omega)
      all_goals exact z00 ihi' rfl rfl
  · obtain rfl:i=A.length:=by omega
    rw[zAs,mkP] at j3
    obtain⟨f1,f2,f3,f4,f5⟩:=hfin (L1,m1) j3
    have ih':=ih (m1,L1) ⟨f1,f2,f3,f4⟩ f5
    clear ih ihi hfin
    all_goals exact zD103
def zzb (lv:List Bool) (c:Int):List Arc→Int
 | []=> -1
 | x::l=>if (x.1≤c∧c≤x.2.1)∧lv.getD x.2.2.toNat false=true then x.2.2 else zzb lv c l
theorem zzv (lv:List Bool) (c:Int):∀ {l:List Arc} {p:Option Arc},okA p l→zzb lv c l=if 0≤nxt l c∧lv.getD (nxt l c).toNat false=true then nxt l c else -1
 | [],_,_=>by simp[zzb,nxt]
 | x::l,p,h=>by
  rw[zzb,nxt]
  have ih:=zzv lv c h.2.2.2
  by_cases hr:x.1≤c∧c≤x.2.1
  · rw[zAz hr]
    by_cases hl:lv.getD x.2.2.toNat false=true
    · rw[zAz ⟨hr,hl⟩,zAz ⟨h.2.1,hl⟩]
    · rw[zAy (fun g=>hl g.2),zAy (fun g=>hl g.2),ih,zqa h.2.2.2 c hr.2]
      rw[zAy (fun g=>absurd g.1 (by decide))]
  · rw[zAy (fun g=>hr g.1),zAy hr,ih]
section
variable {X:Nat}
theorem ztr (F:List Bool) (A:List (List Arc)) (L:List Bool) (h:y67 F A) (hL:L.length=F.length) (q:Nat) (hq:q<F.length) (c:Int) (e0:Nat) :
 z0q Tryz.prog 48 [.ptr (e0,X) 0,I .i64 (q:Nat),I .i32 c] [((e0,X),zxo F A L)] [] (I .i64 (stL ⟨F,A⟩ L q c)):=by
 refine z0v fun H hH=>?_
 have hX:=hH ((e0,X),zxo F A L) (by simp)
 have hAF:=h.len
 obtain⟨l,hl⟩:∃ l,A[q]? =some l:=⟨_,zA0 (by omega)⟩
 obtain⟨a1,a2,a3⟩:=h.arc l (zA2 hl)
 have hst:stL ⟨F,A⟩ L q c=zzb L c l:=by
  have e:Au.nx ⟨F,A⟩ (q:Nat) c=nxt l c:=by
   rw[Au.nx,Au.arcs,zAy (by omega),zA9,List.getD,hl];rfl
  rw[stL,e,zzv L c a1]
 rw[hst]
 refine z06 Tryz.func48 (by kernel_rfl) rfl (by simp) ?_
 dsimp only[Tryz.f48]
 repeat' (first|(apply z13;(refine zek hX ?_))|(apply z04;(refine z08 (z1f (ys:=A.map ze4) rfl (idx hl)) rfl rfl ?_))|refine z01 ?_|fail)
 all_goals try (exfalso;omega)
 refine z0d ?_
 refine z00 (z0p (fun j:Nat=>⟨45,[(0,.ptr (e0+1,X) 0),(2,I .i32 c),(16,.d (y6w l)),(17,I .i64 l.length),(18,I .i64 (j:Nat))],[],H⟩) (fun j=>j≤l.length∧zzb L c (l.drop j)=zzb L c l) (fun j=>l.length-j) ?_ 0 ⟨zAf _,rfl⟩) rfl rfl
 rintro j ⟨j1,j2⟩ ih
 by_cases hj:j<l.length
 · obtain⟨x,hx⟩:∃ x,l[j]? =some x:=⟨_,zA0 hj⟩
   have x1:=a3 x (zA2 hx)
   have hLx:L[x.2.2.toNat]? =some (L.getD x.2.2.toNat false):=Go.Lx.getD_some (by omega)
   rw[drop_cons hx,zzb] at j2
   generalize hb:L.getD x.2.2.toNat false=b at *
   clear hb
   by_cases hr:(x.1≤c∧c≤x.2.1)∧b=true
   · rw[zAz hr] at j2
     rw[← j2]
     obtain⟨⟨r1,r2⟩,rfl⟩:=hr
     clear ih
     repeat' (first|(apply z0c;(refine z7c hX ?_))|(apply z04;(refine z08 (z1f (ys:=l.map zf4) rfl (idx hx)) rfl rfl ?_))|(apply z05;(refine z0f (z1f (ys:=L.map boc) rfl (ztb (g:=boc) hLx)) rfl rfl ?_))|(apply z2d;(refine z0h z5o ?_))|refine z01 ?_|refine fk (fun _=>?_) (fun _=>?_)|(refine z19 (fun hg=>?_) (fun hg=>?_)<;> simp only[hg] <;> (try simp only[zA3,zA5,zA6,zA8] at hg)))
     all_goals try (exfalso;first|omega|(simp at *;done))
     all_goals exact zD79
   · rw[zAy hr] at j2
     have ih':=ih (j+1) ⟨by omega,j2⟩ (by omega)
     clear ih
     cases b
     all_goals repeat' (first|(apply z0c;(refine z7c hX ?_))|(apply z04;(refine z08 (z1f (ys:=l.map zf4) rfl (idx hx)) rfl rfl ?_))|(apply z05;(refine z0f (z1f (ys:=L.map boc) rfl (ztb (g:=boc) hLx)) rfl rfl ?_))|(apply z2d;(refine z0h z5o ?_))|refine z01 ?_|refine fk (fun _=>?_) (fun _=>?_)|(refine z19 (fun hg=>?_) (fun hg=>?_)<;> simp only[hg] <;> (try simp only[zA3,zA5,zA6,zA8] at hg)))
     all_goals try (exfalso;first|omega|(simp at *;done)|(simp at *;omega))
     all_goals exact z00 ih' rfl rfl
 · obtain rfl:j=l.length:=by omega
   rw[zAs,zzb] at j2
   rw[← j2]
   clear ih
   repeat' (first|refine z01 ?_|refine fk (fun _=>?_) (fun _=>?_))
   all_goals try (exfalso;omega)
   all_goals exact zD79
end
theorem y0b (c:Int):(Utf8.encode c).size=zE c:=by
 have:=z3q (Utf8.encode c)
 rw[z6l] at this
 rw[← this];rfl
theorem zhz {s:ByteArray} (h:zbi s=true):∀ u∈rst s 0,u.n=zE u.r:=by
 have hs:=zc1 h
 have hv':∀ c∈Go.Rx.z2x s,Utf8.valid c=true:=fun c hc=>zc8.1 (zad c hc)
 have e:=y21 hv'
 rw[← hs] at e
 rw[e]
 generalize Go.Rx.z2x s=l
 intro u hu
 induction l with
 | nil=>simp[mkU] at hu
 | cons c l ih =>
  rw[mkU] at hu
  rcases zAc.1 hu with rfl|hu
  · rfl
  · exact ih hu
theorem zrf {F:List Bool} {A:List (List Arc)} (h:y67 F A) (L:List Bool) (q:Nat) (hq:q<F.length) (c:Int) (hs:¬ stL ⟨F,A⟩ L q c<0):∃ p:Nat,stL ⟨F,A⟩ L q c=p∧p<F.length:=by
 have hAF:=h.len
 obtain⟨l,hl⟩:∃ l,A[q]? =some l:=⟨_,zA0 (by omega)⟩
 obtain⟨a1,a2,a3⟩:=h.arc l (zA2 hl)
 have e:Au.nx ⟨F,A⟩ (q:Nat) c=nxt l c:=by
  rw[Au.nx,Au.arcs,zAy (by omega),zA9,List.getD,hl];rfl
 rw[stL,e] at hs ⊢
 have key:∀ (m:List Arc),(∀ x∈m,0≤x.2.2∧x.2.2<F.length)→nxt m c<F.length:=fun m=>by
  induction m with
  | nil=>intro _;rw[nxt];omega
  | cons x m ih =>
   intro hm
   rw[nxt]
   split
   · exact(hm x (by simp)).2
   · exact ih fun y hy=>hm y (by simp[hy])
 have hk:=key l fun x hx=>by have:=a3 x hx;omega
 split
 · rename_i g;exact⟨(nxt l c).toNat,by omega,by omega⟩
 · rename_i g;rw[zAy g] at hs;omega
section
variable {X:Nat}
theorem y95 (F:List Bool) (A:List (List Arc)) (L:List Bool) (h:y67 F A) (hL:L.length=F.length) (w:ByteArray) (hv:zbi w=true) (hs:w.size≤100000) (e0:Nat) :
 z0q Tryz.prog 45 [.ptr (e0,X) 0,S w] [((e0,X),zxo F A L)] [] (.tup [B (zly ⟨F,A⟩ L 0 (Go.Rx.z2x w) 0).1,I .i64 (zly ⟨F,A⟩ L 0 (Go.Rx.z2x w) 0).2]):=by
 refine z0v fun H hH=>?_
 have hX:=hH ((e0,X),zxo F A L) (by simp)
 obtain⟨R,hR⟩:∃ R,zly ⟨F,A⟩ L 0 (Go.Rx.z2x w) 0=R:=⟨_,rfl⟩
 rw[hR]
 have hpos:=h.pos
 refine z06 Tryz.func45 (by kernel_rfl) rfl (by simp) ?_
 dsimp only[Tryz.f45]
 repeat' (first|refine z01 ?_|(apply z10;(refine z8y rfl rfl rfl (by decide) ?_)))
 all_goals try (exfalso;omega)
 refine z0d ?_
 refine z00 (z0p (fun z:Nat × Nat=>⟨34,[(0,.ptr (e0+1,X) 0),(6,I .i64 (z.2:Nat)),(10,.ptr (0,10) 0)],[(10,.siter w z.1)],H⟩)
  (fun z=>z.1≤w.size∧z.2<F.length∧(∀ u∈rst w z.1,u.n=zE u.r)∧zly ⟨F,A⟩ L z.2 ((rst w z.1).map (·.r)) z.1=R) (fun z=>w.size-z.1) ?_ (0,0) ⟨zAf _,hpos,zhz hv,hR⟩) rfl rfl
 rintro⟨i,q⟩ ⟨i1,i2,i3,i4⟩ ih
 simp only at i1 i2 i3 i4 ih ⊢
 by_cases hlt:i<w.size
 · have hd:=z5l hlt
   have hw:=z8a w i hlt
   have hdh:=zei w i
   rw[hd] at i3 i4
   have hwz:=i3 _ (List.mem_cons_self ..)
   simp only at hwz
   rw[List.map_cons,zly] at i4
   simp only at i4
   have hst:=ztr (X:=X) F A L h hL q i2 ((Utf8.decode w i).1:Nat) (e0+1)
   have hes:=y0b ((Utf8.decode w i).1:Nat)
   by_cases hg:stL ⟨F,A⟩ L q ((Utf8.decode w i).1:Nat)<0
   · rw[zAz hg,← hes] at i4
     rw[← i4]
     clear ih
     generalize stL ⟨F,A⟩ L q ((Utf8.decode w i).1:Nat)=p at *
     repeat' (first|(apply z03;(refine z3k hst (z1m (m:=(e0+1,X)) hX z5c) ?_))|(apply z3t;(refine z08 (z6d rfl rfl) rfl rfl ?_))|refine z01 ?_|refine fk (fun _=>?_) (fun _=>?_)|(apply z10;(refine z1p hlt rfl rfl (by decide) ?_)))
     all_goals exact zD67
   · rw[zAy hg] at i4
     obtain⟨p,hp1,hp2⟩:=zrf h L q i2 _ hg
     rw[hp1,← hwz] at i4
     rw[hp1] at hst
     have ih':=ih (i+(Utf8.decode w i).2,p) ⟨by simp only;omega,hp2,fun u hu=>i3 u (List.mem_cons_of_mem _ hu),i4⟩ (by simp only;omega)
     simp only at ih'
     clear ih hg hp1 i3 i4
     repeat' (first|(apply z03;(refine z3k hst (z1m (m:=(e0+1,X)) hX z5c) ?_))|refine z01 ?_|(apply z10;(refine z1p hlt rfl rfl (by decide) ?_)))
     all_goals exact zD8
 · obtain rfl:i=w.size:=by omega
   rw[z3g (zAj _),List.map_nil,zly] at i4
   have hf:F[q]? =some (F.getD q false):=Go.Lx.getD_some i2
   have hfin:Au.fin ⟨F,A⟩ (q:Nat)=F.getD q false:=by rw[Au.fin,zAy (by omega),zA9]
   rw[hfin] at i4
   rw[← i4]
   clear ih
   generalize F.getD q false=b at *
   repeat' (first|(apply z13;(refine zek hX ?_))|(apply z04;(refine z08 (z1f (ys:=F.map boc) rfl (idx (g:=boc) hf)) rfl rfl ?_))|refine z01 ?_|(apply z10;(refine z2f hlt rfl rfl (by decide) ?_)))
   all_goals exact zD67
end
theorem zib:∀ (a b:List UInt8),(a.map UInt8.toNat).isPrefixOf (b.map UInt8.toNat)=a.isPrefixOf b
 | [],b=>by simp[List.isPrefixOf]
 | x::a,[]=>by simp[List.isPrefixOf]
 | x::a,y::b=>by
  rw[List.map_cons,List.map_cons,List.isPrefixOf,List.isPrefixOf,zib a b]
  congr 1
  rw[Bool.eq_iff_iff,beq_iff_eq,beq_iff_eq]
  exact⟨fun h=>UInt8.toNat.inj h,fun h=>by rw[h]⟩
theorem zxh (s p:ByteArray):z09 Tryz.prog 70 [S s,S p] (B (zgn p s)):=by
 refine z7x ⟨_,Tryz.func70,by kernel_rfl,by kernel_rfl⟩ fun β own w vals hA=>?_
 obtain⟨hl,ha⟩:=hA
 obtain⟨v,u,rfl⟩:∃ v u,vals=[v,u]:=by
  match vals,hl with
  | [v,u],_=>exact⟨v,u,rfl⟩
 have hv:=PR.lit (ha 0 _ v rfl rfl)
 have hu:=PR.lit (ha 1 _ u rfl rfl)
 subst hv hu
 have e:zgn p s=Lib.hasPrefix s.data.toList p.data.toList:=by rw[zgn,btN,btN,zib];rfl
 rw[e]
 exact⟨_,strings_HasPrefix s p w,fun w' own'=>PR.B _⟩
section
variable {X:Nat} {W:List ByteArray} (C:List Nat) (rv:D)
theorem y7r (e0:Nat) (w:ByteArray) (i:Nat) (hi:i<W.length):z0q Tryz.prog 68 [.d (.lit (.int .i64 (i:Nat))),.ptr (1,2) 0,.ptr (1,3) 0] [((1,2),.box [.ptr (e0+1,X) 0]),((1,3),.box [S w]),((e0+2,X),lexB W C rv)] [] (B (!ltS (wd W i) w)):=by
 refine z0v fun H hH=>?_
 have hA:=hH ((1,2),.box [.ptr (e0+1,X) 0]) (by simp)
 have hB:=hH ((1,3),.box [S w]) (by simp)
 have hX:=hH ((e0+2,X),lexB W C rv) (by simp)
 refine z06 Tryz.func68 (by kernel_rfl) rfl (by simp) ?_
 dsimp only[Tryz.f68]
 have hw:=z43 hi
 rw[← zdd]
 repeat' (first|(apply z0c;(first|refine z7c hX ?_| refine z7c hB ?_| refine z7c hA ?_))|(apply z05;(refine z0f (z1f (ys:=W.map stc) rfl (idx hw)) rfl rfl ?_))|refine z01 ?_|fail)
 all_goals ((repeat rw[z1t]);first|exact z02 Tryz.func68 _ (z0r rfl rfl rfl rfl rfl rfl rfl) ⟨rfl,rfl⟩|exact z02 Tryz.func68 _ z2j ⟨rfl,rfl⟩|exact z02 Tryz.func68 _ z1d ⟨rfl,rfl⟩|exact z02 Tryz.func68 _ z68 ⟨rfl,rfl⟩)
theorem y9a (e0:Nat) (p:ByteArray) (lo i:Nat) (hi:lo+i<W.length) (hl:W.length≤1000000):z0q Tryz.prog 69 [.d (.lit (.int .i64 (i:Nat))),.ptr (1,2) 0,.ptr (1,6) 0,.ptr (1,3) 0] [((1,2),.box [.ptr (e0+1,X) 0]),((1,6),.box [I .i64 (lo:Nat)]),((1,3),.box [S p]),((e0+2,X),lexB W C rv)] [] (B (!zgn p (wd W (lo+i)))):=by
 refine z0v fun H hH=>?_
 have hA:=hH ((1,2),.box [.ptr (e0+1,X) 0]) (by simp)
 have hL:=hH ((1,6),.box [I .i64 (lo:Nat)]) (by simp)
 have hB:=hH ((1,3),.box [S p]) (by simp)
 have hX:=hH ((e0+2,X),lexB W C rv) (by simp)
 have hw:=z43 hi
 have hpr:=zxh (wd W (lo+i)) p
 generalize wd W (lo+i)=w at *
 refine z06 Tryz.func69 (by kernel_rfl) rfl (by simp) ?_
 dsimp only[Tryz.f69]
 have hw':W[(((lo:Nat):Int)+((i:Nat):Int)).toNat]? =some w:=by rw[show (((lo:Nat):Int)+((i:Nat):Int)).toNat=lo+i by omega];exact hw
 repeat' (first|(apply z0c;(first|refine z7c hX ?_| refine z7c hL ?_| refine z7c hB ?_| refine z7c hA ?_))|(apply z05;(refine z0f (z1f (ys:=W.map stc) rfl (ztb hw')) rfl rfl ?_))|(apply z0m;(refine z3z hpr ?_))|refine z01 ?_|fail)
 all_goals ((repeat rw[z1t]);first|exact z02 Tryz.func69 _ (z0r rfl rfl rfl rfl rfl rfl rfl) ⟨rfl,rfl⟩|exact z02 Tryz.func69 _ z2j ⟨rfl,rfl⟩|exact z02 Tryz.func69 _ z1d ⟨rfl,rfl⟩|exact z02 Tryz.func69 _ z68 ⟨rfl,rfl⟩)
theorem zwy (e0:Nat) (h:zbj W) (hl:W.length≤1000000) (p:ByteArray):z0q Tryz.prog 31 [.ptr (e0,X) 0,S p] [((e0,X),lexB W C rv)] [] (.tup [I .i64 ((zq9 W p).1:Nat),I .i64 ((zq9 W p).2:Nat)]):=by
 refine z0v fun H hH=>?_
 have hX:=hH ((e0,X),lexB W C rv) (by simp)
 have hse:=zhj (X:=X) C rv e0 h hl p 68 (fun i hi=>y7r C rv e0 p i hi)
 have hlo:=lo_le h p
 have hcn:zjp W p≤W.length-loS W p:=(z4f _ _).1
 have hs2:z0q Tryz.prog 67 [I .i64 ((W.length:Int)-(loS W p:Nat)),.fn (.func 69) [] [.ptr (0,2) 0,.ptr (0,6) 0,.ptr (0,3) 0]] [((0,2),.box [.ptr (e0+1,X) 0]),((0,6),.box [I .i64 (loS W p:Nat)]),((0,3),.box [S p]),((e0+1,X),lexB W C rv)] [] (I .i64 (zjp W p:Nat)):=by
  rw[show (W.length:Int)-(loS W p:Nat)=((W.length-loS W p:Nat):Int) by omega]
  refine z0v fun H hH=>?_
  have hA:=hH ((0,2),.box [.ptr (e0+1,X) 0]) (by simp)
  have hL:=hH ((0,6),.box [I .i64 (loS W p:Nat)]) (by simp)
  have hB:=hH ((0,3),.box [S p]) (by simp)
  have hX:=hH ((e0+1,X),lexB W C rv) (by simp)
  refine zlu (W.length-loS W p) (by omega) 69 [.ptr (0,2) 0,.ptr (0,6) 0,.ptr (0,3) 0] [((1,2),.box [.ptr (e0+1,X) 0]),((1,6),.box [I .i64 (loS W p:Nat)]),((1,3),.box [S p]),((e0+2,X),lexB W C rv)] (fun k=>!zgn p (wd W (loS W p+k))) (fun i j hij hj hi=>?_) H (fun i hi=>y9a C rv e0 p (loS W p) i (by omega) hl) (fun n tm hp=>by simp[BkE,z3m,push,hA,hL,hB,hX])
  simp only[zA6] at hi ⊢
  cases e:zgn p (wd W (loS W p+j)) with
  | false=>rfl
  | true =>
   have h1:=(zg6 h p (by omega)).1 e
   have h2:=(zg6 h p (i:=loS W p+i) (by omega)).2 ⟨by omega,by omega⟩
   rw[h2] at hi;cases hi
 rw[zq9]
 generalize loS W p=lo at *
 generalize zjp W p=n at *
 refine z06 Tryz.func31 (by kernel_rfl) rfl (by simp) ?_
 dsimp only[Tryz.f31]
 have hbk:∀ (n:Nat) (tm:List (Nat × PV)),BkE ⟨n,tm,[(3,.box [S p]),(2,.box [.ptr (e0+1,X) 0])],H⟩ [((0,2),.box [.ptr (e0+1,X) 0]),((0,3),.box [S p]),((e0+1,X),lexB W C rv)]:=fun n tm=>by simp[BkE,z3m,push,Ab.look,hX]
 have hb6:∀ (n:Nat) (tm:List (Nat × PV)) (hp:Hp),Ab.look hp 2=some (.box [.ptr (e0+1,X) 0])→Ab.look hp 6=some (.box [I .i64 (lo:Nat)])→Ab.look hp 3=some (.box [S p])→BkE ⟨n,tm,hp,H⟩ [((0,2),.box [.ptr (e0+1,X) 0]),((0,6),.box [I .i64 (lo:Nat)]),((0,3),.box [S p]),((e0+1,X),lexB W C rv)]:=fun n tm hp h2 h6 h3=>by simp[BkE,z3m,push,h2,h6,h3,hX]
 by_cases hn:n=0
 · subst hn
   rw[zAz rfl]
   repeat' (first|(apply z10;(refine z9x rfl rfl (by decide) ?_))|(apply zv0;(refine zzi (by first|exact rfl|exact⟨_,rfl,rfl,rfl⟩) rfl rfl (by decide) ?_))|(apply z13;(refine zek hX ?_))|(apply z0c;(refine z7c hX ?_))|(apply z03;(refine z3k hse (hbk _ _) ?_))|(apply z0m;(refine zcz hs2 (by first|exact rfl|exact⟨_,rfl,rfl,rfl⟩) rfl (hb6 _ _ _ rfl rfl rfl) (by decide) ?_))|(apply z2c;(refine z0h z4x ?_))|refine z01 ?_|fail)
   all_goals exact zD138
 · rw[zAy hn]
   repeat' (first|(apply z10;(refine z9x rfl rfl (by decide) ?_))|(apply zv0;(refine zzi (by first|exact rfl|exact⟨_,rfl,rfl,rfl⟩) rfl rfl (by decide) ?_))|(apply z13;(refine zek hX ?_))|(apply z0c;(refine z7c hX ?_))|(apply z03;(refine z3k hse (hbk _ _) ?_))|(apply z0m;(refine zcz hs2 (by first|exact rfl|exact⟨_,rfl,rfl,rfl⟩) rfl (hb6 _ _ _ rfl rfl rfl) (by decide) ?_))|(apply z2c;(refine z0h z4x ?_))|refine z01 ?_|refine fk (fun _=>?_) (fun _=>?_))
   all_goals exact zD138
end
theorem zyz {F:List Bool} {A:List (List Arc)} (h:A.length=F.length) {q:Nat} (hl:z5m F A q):q<F.length:=by
 cases hl with
 | fin q h1=>exact(zA1.1 h1).1
 | arc q l x h1 h2 h3=>rw[← h];exact(zA1.1 h1).1
theorem y24 {a:Au} (h:AuW a) (q:Nat) (hq:(z6a a.F a.A).getD q false=false) (w:List Int):a.acc (q:Nat) w=false:=by
 cases e:a.acc (q:Nat) w with
 | false=>rfl
 | true =>
  have hl:=ziy h w q e
  rw[(zym (zyz h.len hl)).2 hl] at hq;cases hq
def zfe (f:Nat→Bool) (n:Nat):List Int:=(sel f n).map fun (i:Nat)=>(i:Int)
def ya8 (W:List ByteArray) (a:Au):PV:=if vAu a=0 then .tup [.d (inD (zfe (fun i=>a.acc 0 (Go.Rx.z2x (wd W i))) W.length)),I .i64 0] else .tup [.d (inD []),I .i64 1]
theorem zqp (l:List Nat):inD (l.map fun (i:Nat)=>(i:Int))=.slice (l.map nmc):=by rw[inD,List.map_map];rfl
structure zkr (W:List ByteArray):Prop where
 asc:zbj W
 len:W.length≤5000
 vld:∀ w∈W,zbi w=true
 size:∀ w∈W,w.size≤1000
section
variable {X:Nat}
theorem zxd (W:List ByteArray) (C:List Nat) (rv:D) (hW:zkr W) (a:Au) (hf:ya5 a) (e0:Nat):z0q Tryz.prog 14 [.ptr (e0,X) 0,.d (auD a)] [((e0,X),lexB W C rv)] [] (ya8 W a):=by
 refine z0v fun H hH=>?_
 have hX:=hH ((e0,X),lexB W C rv) (by simp)
 have hva:=zsk a hf
 refine z06 Tryz.func14 (by kernel_rfl) rfl (by simp) ?_
 dsimp only[Tryz.f14]
 by_cases h0:vAu a=0
 case neg =>
  rw[ya8,zAy h0]
  generalize vAu a=v at *
  obtain⟨F,A⟩:=a
  repeat' (first|(apply z03;(refine z1n hva ?_))|(apply z2c;(refine z0h z4x ?_))|refine z01 ?_|refine fk (fun _=>?_) (fun _=>?_))
  all_goals try (exfalso;omega)
  all_goals refine y43 4 rfl ?_
  all_goals exact z02 Tryz.func14 _ z2j ⟨rfl,rfl⟩
 rw[h0] at hva
 rw[ya8,zAz h0]
 have hok:=(zul h0).1
 have hw:=y88 h0
 have hno:=y24 hw
 have hll:=zls a.F a.A
 have hnm:=zzx a hok
 obtain⟨f,hfd⟩:∃ f:Nat→Bool,(fun i=>a.acc 0 (Go.Rx.z2x (wd W i)))=f:=⟨_,rfl⟩
 have hfi:∀ i,f i=a.acc 0 (Go.Rx.z2x (wd W i)):=fun i=>by rw[← hfd]
 rw[hfd]
 clear hfd
 obtain⟨L,hL⟩:∃ L,z6a a.F a.A=L:=⟨_,rfl⟩
 rw[hL] at hno hll hnm
 have hmr:=fun (w:ByteArray) (hv:zbi w=true) (hs:w.size≤100000)=>y95 (X:=17) a.F a.A L hok hll w hv hs 0
 have hpos:=hok.pos
 obtain⟨F,A⟩:=a
 simp only at hnm hll hpos hmr hL hok
 have hspec:=fun (w:ByteArray)=>zdg (a:=⟨F,A⟩) hno (Go.Rx.z2x w) 0 0
 have hdead:=fun (w w':ByteArray) (h1:zbi w=true) (h2:zbi w'=true) (d:Nat)=>zz6 (a:=⟨F,A⟩) (w:=w) (w':=w') hno h1 h2 (d:=d)
 have hL0:L[(0:Int).toNat]? =some (L.getD 0 false):=Go.Lx.getD_some (by show 0<L.length;omega)
 have hz:L.getD 0 false=false→sel f W.length=[]:=fun h=>by
  rw[zbs (n:=0) (zAf _) fun i _ _=>by rw[hfi];exact hno 0 h _];rfl
 have hsz:=zlr (X:=X) W C rv (e0+1)
 have hwo:=fun (i:Nat) (hi:i<W.length)=>zsw (X:=X) W C rv (e0+1) i hi
 have hpf:=fun (p:ByteArray)=>zwy (X:=X) (W:=W) C rv (e0+1) hW.asc (by have:=hW.len;omega) p
 have hWl:=hW.len
 repeat' (first | (apply z03; (first | refine z1n hva ?_| (refine za7 rfl (hnm _) (by decide) rfl (fun r H' h => ⟨_, h.1, h.2, rfl, rfl, ?_⟩)) /- z5h -/)) | (apply z2c; (refine z0h z4x ?_)) | refine z01 ?_ | fail)
 all_goals try (exfalso;omega)
 refine z2v 7 1000 3 1 rfl rfl rfl ?_
 refine z0d ?_
 refine z00 (z0p (fun z:Nat × List Nat=>⟨60,[(0,.ptr (e0+1,X) 0),(6,.ptr (0,17) 0),(7,.ref (0,1000)),(8,I .i64 (z.1:Nat))],[(17,zxo F A L),(1000,.row 3 1 (z.2.map nmc))],H⟩) (fun z=>z.1≤W.length∧z.2=sel f z.1) (fun z=>W.length-z.1) ?_ (0,[]) ⟨zAf _,rfl⟩) rfl rfl
 rintro⟨n,out⟩ ⟨i1,i2⟩ ih
 simp only at i1 i2 ih ⊢
 have hol:out.length≤n:=by rw[i2];exact zfu f n
 have hbX:∀ (n:Nat) (tm:List (Nat × PV)) (hp:Hp),BkE ⟨n,tm,hp,H⟩ [((e0+1,X),lexB W C rv)]:=fun n tm hp=>z1m (m:=(e0+1,X)) hX z5c
 by_cases hl0:L.getD 0 false=true
 case neg =>
  rw[Bool.not_eq_true] at hl0
  rw[zfe,hz hl0]
  have hz2:out=[]:=by
   rw[i2,zbs (n:=0) (zAf _) fun i _ _=>by rw[hfi];exact hno 0 hl0 _];rfl
  subst hz2
  rw[hl0] at hL0
  clear ih
  refine z0z 1000 rfl ?_
  repeat' (first|(apply z04;(refine z08 (z1f (ys:=L.map boc) rfl (idx (g:=boc) hL0)) rfl rfl ?_))|refine z01 ?_|fail)
  all_goals try (exfalso;omega)
  all_goals exact z02 Tryz.func14 _ z2j ⟨rfl,rfl⟩
 rw[hl0] at hL0
 by_cases hlt:n<W.length
 · have hwd:=hwo n hlt
   have hvw:=hW.vld _ (z8i hlt)
   have hsw:=hW.size _ (z8i hlt)
   have hm:=hmr (wd W n) hvw (by omega)
   have hsp:=hspec (wd W n)
   have hde:=fun (w':ByteArray) (h2:zbi w'=true) (d:Nat)=>hdead (wd W n) w' hvw h2 d
   have hfn:=hfi n
   generalize zly ⟨F,A⟩ L 0 (Go.Rx.z2x (wd W n)) 0=r at *
   obtain⟨acc,dead⟩:=r
   simp only at hm hsp hde
   have hwn:=z43 hlt
   by_cases hd:0<dead
   · obtain⟨u,v,e1,e2,e3,e4⟩:=hsp.2 hd
     have hdl:dead≤(wd W n).size:=by
      have hb:=ybn hvw
      have h1:=z3q (wd W n)
      rw[hb,e1,zkd,zAa] at h1
      omega
     have hpre:btN ((wd W n).extract 0 dead)=(btN (wd W n)).take dead:=zkz _ _
     have hps:zgn ((wd W n).extract 0 dead) (wd W n)=true:=z9v.2 (by rw[hpre];exact List.take_prefix _ _)
     obtain⟨p1,p2,p3⟩:=zz3 hW.asc ((wd W n).extract 0 dead) hlt hps
     have hp:=hpf ((wd W n).extract 0 dead)
     have hskip:sel f (zq9 W ((wd W n).extract 0 dead)).2=sel f n:=zbs (by omega) fun i g1 g2=>by
      have h3:=z9v.1 (p3 i g1 g2)
      rw[hpre] at h3
      rw[hfi]
      exact hde (wd W i) (hW.vld _ (z8i (by omega))) dead rfl hd h3
     have ih':=ih ((zq9 W ((wd W n).extract 0 dead)).2,out) ⟨by simp only;omega,by simp only;rw[hskip];exact i2⟩ (by simp only;omega)
     simp only at ih'
     clear ih hskip p3 hde hsp
     generalize (zq9 W ((wd W n).extract 0 dead)).1=m1 at *
     generalize (zq9 W ((wd W n).extract 0 dead)).2=m2 at *
     generalize wd W n=w at *
     repeat' (first|(apply z04;(refine z08 (z1f (ys:=L.map boc) rfl (idx (g:=boc) hL0)) rfl rfl ?_))|(apply zkg;(refine z08 (z95 rfl (by omega) (by omega)) rfl rfl ?_))|(apply z03;(first|refine z3k hp (hbX _ _ _) ?_| refine z71 hm rfl (z1m (m:=(0,17)) rfl z5c) (by decide) ?_|refine z3k hwd (hbX _ _ _) ?_| refine z3k hsz (hbX _ _ _) ?_))|refine z01 ?_|refine fk (fun _=>?_) (fun _=>?_))
     all_goals exact zD8
   · have hd0:dead=0:=by omega
     have ha:=hsp.1 hd0
     rw[← hfn] at ha
     subst hd0
     have ih':=ih (n+1,out++if acc=true then [n] else []) ⟨by simp only;omega,by simp only;rw[z9h,← i2,ha]⟩ (by simp only;omega)
     simp only at ih'
     clear ih hde hsp hfn
     generalize wd W n=w at *
     cases acc with
     | true =>
      rw[zAz rfl] at ih'
      repeat' (first|(apply z04;(refine z08 (z1f (ys:=L.map boc) rfl (idx (g:=boc) hL0)) rfl rfl ?_))|(apply z1k;(refine z6p (g:=nmc) n rfl ?_))|(apply z03;(first|refine z71 hm rfl (z1m (m:=(0,17)) rfl z5c) (by decide) ?_|refine z3k hwd (hbX _ _ _) ?_| refine z3k hsz (hbX _ _ _) ?_))|refine z01 ?_|refine fk (fun _=>?_) (fun _=>?_))
      all_goals try (exfalso;omega)
      refine z2y 56 1000 ?_
      exact z00 ih' rfl rfl
     | false =>
      rw[zAy (by decide),List.append_nil] at ih'
      repeat' (first|(apply z04;(refine z08 (z1f (ys:=L.map boc) rfl (idx (g:=boc) hL0)) rfl rfl ?_))|(apply z03;(first|refine z71 hm rfl (z1m (m:=(0,17)) rfl z5c) (by decide) ?_|refine z3k hwd (hbX _ _ _) ?_| refine z3k hsz (hbX _ _ _) ?_))|refine z01 ?_|refine fk (fun _=>?_) (fun _=>?_))
      all_goals exact zD8
 · obtain rfl:n=W.length:=by omega
   rw[zfe,← i2,zqp]
   clear ih
   refine z0z 1000 rfl ?_
   repeat' (first|(apply z04;(refine z08 (z1f (ys:=L.map boc) rfl (idx (g:=boc) hL0)) rfl rfl ?_))|(apply z03;(refine z3k hsz (hbX _ _ _) ?_))|refine z01 ?_|refine fk (fun _=>?_) (fun _=>?_))
   all_goals try (exfalso;omega)
   all_goals exact z02 Tryz.func14 _ z2j ⟨rfl,rfl⟩
end
end Go.Proofs.YtmcggompdmngmaaGreatDoor
