/- A part. -/
import Derived.Test.YtmcggompdmngmaaGreatDoorXe
import Derived.Test.YtmcggompdmngmaaGreatDoorXh
import Derived.Test.YtmcggompdmngmaaGreatDoorXo
import Derived.Test.YtmcggompdmngmaaGreatDoorX8
set_option linter.all false
open Go.Proofs.Tryz
namespace Go.Proofs.YtmcggompdmngmaaGreatDoor
open Go.Ab Go.Ax Go.Rx Go.Lx Go.ChangeShapes Go.WideShapes Go.ChangeAt Go.RowKit
set_option maxHeartbeats 20000000
set_option maxRecDepth 100000
theorem y3p{H:Type}{enc:TypeId × Value→H}{W:World}{v:Value}{d:DataW H}{p:List MemPlace}{r:Reach}{b0:Nat}(hsep:∀g o v,zk9 g→W.cell? ⟨g,o,none⟩=some v→∃z,v=.int .u8 z)(hval:Value.okWide prog W r b0 22 v)
 (h:DataW.Trod enc prog W 0 (fun _=>true) true 22 v d p):∃a:List ByteArray,a.length≤9223372036854775807∧DR W zk9 (.slice (a.map stc)) v:=by
 obtain⟨ds,h1,_,h2⟩:=zoh hsep (G:=[22,9]) (by kernel_rfl) (by kernel_rfl) (by decide) hval h
 obtain⟨l,rfl,hl,_⟩:=h1.inv_list (e:=9) stc (fun _=>True) (by kernel_rfl) fun x hx=>by
  obtain⟨s,rfl,_⟩:=hx.inv_str (by kernel_rfl)
  exact⟨s,rfl,trivial⟩
 exact⟨l,hl,h2 _ rfl fun fs hs=>by
  have e:prog.underlying 22=some (.slice 9):=by kernel_rfl
  rw[e]at hs;simp at hs⟩
end Go.Proofs.YtmcggompdmngmaaGreatDoor
namespace Go.Proofs.YtmcggompdmngmaaGreatDoor
open Go.Ab Go.Rx Go.Lx Go.Ax
set_option maxHeartbeats 20000000
set_option maxRecDepth 100000
attribute [local irreducible] Run Ops Op1 z0y Val Tr z0a z0u NF Rel z27 z29 z5w
abbrev zww(F:List Bool)(A:List (List Arc))(L:List Bool):Blk:=.box [.d (zio F),.d (.slice (A.map z7m)),.d (zio L)]
theorem y83:type_of% @zuh:=@zuh
theorem zgo:type_of% @ycp:=@ycp
theorem y1k(a:Au)(h:zfy a.F a.A)(H:Hf):Ab.Spec prog 44 [.d (auD a)] H (fun r H'=>r=.new (zww a.F a.A (z3m a.F a.A))∧H'=H):=by
 obtain⟨F,A⟩:=a
 change Ab.Spec prog 44 [.d (.agg [zio F,.slice (A.map z7m)])] H fun r H'=>r=.new (zww F A (z3m F A))∧H'=H
 refine z05 func44 (by kernel_rfl) rfl (by simp) ?_
 dsimp only[f44]
 have h1:=h.len
 have h2:=h.few
 simp only at h1 h2
 repeat' (first | (apply z4i; ((refine zc1 mix (by kernel_rfl) ?_; refine zgo (by first | exact .inl rfl | exact .inr ⟨_, _, _, rfl, rfl, rfl⟩) ?_; refine y83 (e' := 4) rfl rfl rfl rfl (by decide) rfl (by simp) (fun y hy => by obtain ⟨b, _, rfl⟩ := List.mem_map.1 hy; rfl) ?_) /- t_copy -/)) | (apply z1n; (refine z09 z3s ?_)) | (apply ztf; (refine zyb rfl rfl rfl rfl rfl rfl (by decide) ?_)) | (apply zo8; ((refine zc1 mix (by kernel_rfl) ?_) /- ztd -/)) | (apply y5v; (refine y8q (xs := (List.replicate F.length false).map boc) (by first | exact rfl | exact ⟨_, rfl, rfl, rfl⟩) rfl rfl (by omega) (by omega) rfl rfl rfl (by decide) (by simp) ?_)) | refine z04 ?_ | fail)
 all_goals try omega
 refine z1d 13 2001 ?_
 refine z1d 15 2002 ?_
 have hAF:A.length=F.length:=h1
 have hrng:∀l∈A,∀x∈l,0≤x.2.2∧x.2.2<F.length:=fun l hl x hx=>((h.arc l hl).2.2 x hx).2.2.2
 have hll:∀l∈A,l.length≤2000000:=fun l hl=>(h.arc l hl).2.1
 refine z0f ?_
 refine z00 (z0s (fun z:Bool × List Bool=>⟨65,[(1,.ptr (0,1) 0),(3,.ptr (0,2002) 0),(4,B z.1)],[(1,.box [.d (zio F),.d (.slice (A.map z7m))]),(2002,.box [.d (zio F),.d (.slice (A.map z7m)),.ref (0,2001)]),(2001,.row 4 1 (z.2.map boc))],H⟩)
  (fun z=>z.2.length=F.length∧(∀q:Nat,z.2[q]? =some true→z57 F A q)∧leB F z.2∧(z.1=false→z.2=z3m F A)) (fun z=>if z.1=true then z.2.count false+1 else 0) ?_ (true,F) ⟨rfl,fun q hq=>.fin q hq,zh6 F,fun h=>by cases h⟩) rfl rfl
 rintro⟨b,L0⟩ ⟨i1,i2,i3,i4⟩ ih
 simp only at i1 i2 i3 i4 ih⊢
 cases b with
 | false =>
  rw[←i4 rfl]
  clear ih
  refine z0o 2001 rfl ?_
  repeat' first|refine z04 ?_|fail
  all_goals try omega
  all_goals exact z03 func44 _ (zry (ms:=2002) rfl rfl rfl rfl) ⟨rfl,rfl⟩
 | true =>
  have hP:=y0q (F:=F) A 0 (L0,false) (fun k l hk=>by rw[Nat.zero_add];exact hk) (by simp only;omega)
  have hM:=zp1 hAF (L0.count false+1) L0 i1 (by omega) i2 i3
  rw[mkM]at hM
  have hfin:∀s:List Bool × Bool,s=mkP 0 A (L0,false)→s.1.length=F.length∧(∀q:Nat,s.1[q]? =some true→z57 F A q)∧leB F s.1∧(s.2=false→s.1=z3m F A)∧(if s.2=true then s.1.count false+1 else 0)<L0.count false+1:=fun s hs=>by
   rw[←hs]at hP hM
   refine⟨by rw[hP.len];exact i1,hP.sound i2,zae i3 hP.le,fun e=>?_,?_⟩
   ·rw[zAy (by rw[e];decide)]at hM;exact hM
   ·split
    ·rename_i e
     rcases hP.grow e with g|g
     ·cases g
     ·simp only at g;omega
    ·omega
  clear hP hM i4
  simp only[if_true]at ih
  repeat' first|refine z04 ?_|fail
  all_goals try omega
  refine z0f ?_
  refine z00 (z0s (fun z:Nat × List Bool × Bool=>⟨65,[(1,.ptr (0,1) 0),(3,.ptr (0,2002) 0),(4,B z.2.2),(25,.d (.slice (A.map z7m))),(26,I .i64 A.length),(27,I .i64 (z.1:Nat))],[(1,.box [.d (zio F),.d (.slice (A.map z7m))]),(2002,.box [.d (zio F),.d (.slice (A.map z7m)),.ref (0,2001)]),(2001,.row 4 1 (z.2.1.map boc))],H⟩)
   (fun z=>z.1≤A.length∧z.2.1.length=F.length∧mkP z.1 (A.drop z.1) z.2=mkP 0 A (L0,false)) (fun z=>A.length-z.1) ?_ (0,L0,false) ⟨zAf _,i1,rfl⟩) rfl rfl
  rintro⟨i,L1,m1⟩ ⟨j1,j2,j3⟩ ihi
  simp only at j1 j2 j3 ihi⊢
  by_cases hlt:i<A.length
  ·obtain⟨l,hl⟩:∃l,A[i]? =some l:=⟨_,zA0 hlt⟩
   have hlr:=hrng l (zA2 hl)
   have hlm:=hll l (zA2 hl)
   rw[drop_cons hl,mkP]at j3
   repeat' first|(apply z01;refine z07 (z11 (ys:=A.map z7m) rfl (idx hl)) rfl rfl ?_)|refine z04 ?_|refine fk (fun _=>?_) fun _=>?_
   all_goals try omega
   refine z0f ?_
   refine z00 (z0s (fun z:Nat × List Bool × Bool=>⟨65,[(1,.ptr (0,1) 0),(3,.ptr (0,2002) 0),(4,B z.2.2),(5,I .i64 (i:Nat)),(25,.d (.slice (A.map z7m))),(26,I .i64 A.length),(27,I .i64 (i:Nat)),(32,.d (zde l)),(33,I .i64 l.length),(34,I .i64 (z.1:Nat))],[(1,.box [.d (zio F),.d (.slice (A.map z7m))]),(2002,.box [.d (zio F),.d (.slice (A.map z7m)),.ref (0,2001)]),(2001,.row 4 1 (z.2.1.map boc))],H⟩)
    (fun z=>z.1≤l.length∧z.2.1.length=F.length∧(l.drop z.1).foldl (mkA i) z.2=l.foldl (mkA i) (L1,m1)) (fun z=>l.length-z.1) ?_ (0,L1,m1) ⟨zAf _,j2,rfl⟩) rfl rfl
   rintro⟨j,L2,m2⟩ ⟨k1,k2,k3⟩ ihj
   simp only at k1 k2 k3 ihj⊢
   by_cases hj:j<l.length
   ·obtain⟨x,hx⟩:∃x,l[j]? =some x:=⟨_,zA0 hj⟩
    obtain⟨x1,x2⟩:=hlr x (zA2 hx)
    have hLi:L2[i]? =some (L2.getD i false):=Go.Lx.getD_some (by omega)
    have hLx:L2[x.2.2.toNat]? =some (L2.getD x.2.2.toNat false):=Go.Lx.getD_some (by omega)
    rw[drop_cons hx,List.foldl_cons]at k3
    by_cases hc:L2.getD i false=false∧L2.getD x.2.2.toNat false=true
    ·rw[mkA,zAz hc]at k3
     rw[hc.1]at hLi
     rw[hc.2]at hLx
     have ihj':=ihj (j+1,L2.set i true,true) ⟨by simp only;omega,by simp[k2],k3⟩ (by simp only;omega)
     simp only at ihj'
     clear ihj k3 hc
     repeat' first|(apply z0b;first|refine z0c (z0e hLi) rfl rfl ?_| refine z0c (z0e hLx) rfl rfl ?_)|(apply z01;first|refine z07 (z11 (ys:=l.map z3g) rfl (idx hx)) rfl rfl ?_| refine z07 (z1a rfl (by rw[zA4];omega)) rfl rfl ?_)|(apply z02;refine z0c (z1a rfl (by rw[zA4];omega)) rfl rfl ?_)|(apply z0x;refine z88 true rfl rfl rfl rfl hLi rfl rfl rfl rfl ?_)|(apply z1s;refine z09 z4t ?_)|refine z04 ?_|refine fk (fun _=>?_) fun _=>?_
     all_goals exact zD104
    ·rw[mkA,zAy hc]at k3
     have ihj':=ihj (j+1,L2,m2) ⟨by simp only;omega,k2,k3⟩ (by simp only;omega)
     simp only at ihj'
     clear ihj k3
     generalize hb1:L2.getD i false=b1 at *
     generalize hb2:L2.getD x.2.2.toNat false=b2 at *
     clear hb1 hb2
     cases b1
     all_goals cases b2
     all_goals try (exfalso;exact hc ⟨rfl,rfl⟩)
     all_goals clear hc
     all_goals repeat' first|(apply z0b;first|refine z0c (z0e hLi) rfl rfl ?_| refine z0c (z0e hLx) rfl rfl ?_)|(apply z01;refine z07 (z11 (ys:=l.map z3g) rfl (idx hx)) rfl rfl ?_)|(apply z02;refine z0c (z1a rfl (by rw[zA4];omega)) rfl rfl ?_)|(apply z1s;refine z09 z4t ?_)|refine z04 ?_|refine fk (fun _=>?_) fun _=>?_
     all_goals exact zD104
   ·obtain rfl:j=l.length:=by omega
    rw[zAs,List.foldl_nil]at k3
    rw[←k3]at j3
    have ihi':=ihi (i+1,L2,m2) ⟨by simp only;omega,k2,j3⟩ (by simp only;omega)
    simp only at ihi'
    clear ihi ihj
    repeat' first|refine z04 ?_|refine fk (fun _=>?_) fun _=>?_
    all_goals try omega
    all_goals exact z00 ihi' rfl rfl
  ·obtain rfl:i=A.length:=by omega
   rw[zAs,mkP]at j3
   obtain⟨f1,f2,f3,f4,f5⟩:=hfin (L1,m1) j3
   have ih':=ih (m1,L1) ⟨f1,f2,f3,f4⟩ f5
   clear ih ihi hfin
   all_goals exact zD84
def zzj(lv:List Bool)(c:Int):List Arc→Int
 | []=> -1
 | x::l=>if(x.1≤c∧c≤x.2.1)∧lv.getD x.2.2.toNat false=true then x.2.2 else zzj lv c l
theorem y2r(lv:List Bool)(c:Int):∀ {l:List Arc} {p:Option Arc},okA p l→zzj lv c l=if 0≤nxt l c∧lv.getD (nxt l c).toNat false=true then nxt l c else -1
 | [],_,_=>by simp[zzj,nxt]
 | x::l,p,h=>by
  rw[zzj,nxt]
  have ih:=y2r lv c h.2.2.2
  by_cases hr:x.1≤c∧c≤x.2.1
  ·rw[zAz hr]
   by_cases hl:lv.getD x.2.2.toNat false=true
   ·rw[zAz ⟨hr,hl⟩,zAz ⟨h.2.1,hl⟩]
   ·rw[zAy fun g=>hl g.2,zAy fun g=>hl g.2,ih,z9b h.2.2.2 c hr.2]
    rw[zAy fun g=>absurd g.1 (by decide)]
  ·rw[zAy fun g=>hr g.1,zAy hr,ih]
section
variable{X:Nat}
theorem zsc(F:List Bool)(A:List (List Arc))(L:List Bool)(h:zfy F A)(hL:L.length=F.length)(q:Nat)(hq:q<F.length)(c:Int)(e0:Nat) :
 z0u prog 48 [.ptr (e0,X) 0,I .i64 (q:Nat),I .i32 c] [((e0,X),zww F A L)] [] (I .i64 (stL ⟨F,A⟩ L q c)):=by
 refine z0v fun H hH=>?_
 have hX:=hH ((e0,X),zww F A L) (by simp)
 have hAF:=h.len
 obtain⟨l,hl⟩:∃l,A[q]? =some l:=⟨_,zA0 (by omega)⟩
 obtain⟨a1,a2,a3⟩:=h.arc l (zA2 hl)
 have hst:stL ⟨F,A⟩ L q c=zzj L c l:=by
  have e:Au.nx ⟨F,A⟩ (q:Nat) c=nxt l c:=by
   rw[Au.nx,Au.arcs,zAy (by omega),zA9,List.getD,hl];rfl
  rw[stL,e,y2r L c a1]
 rw[hst]
 refine z05 func48 (by kernel_rfl) rfl (by simp) ?_
 dsimp only[f48]
 repeat' first|(apply z1f;refine zcl hX ?_)|(apply z01;refine z07 (z11 (ys:=A.map z7m) rfl (idx hl)) rfl rfl ?_)|refine z04 ?_|fail
 all_goals try omega
 refine z0f ?_
 refine z00 (z0s (fun j:Nat=>⟨45,[(0,.ptr (e0+1,X) 0),(2,I .i32 c),(16,.d (zde l)),(17,I .i64 l.length),(18,I .i64 (j:Nat))],[],H⟩) (fun j=>j≤l.length∧zzj L c (l.drop j)=zzj L c l) (fun j=>l.length-j) ?_ 0 ⟨zAf _,rfl⟩) rfl rfl
 rintro j ⟨j1,j2⟩ ih
 by_cases hj:j<l.length
 ·obtain⟨x,hx⟩:∃x,l[j]? =some x:=⟨_,zA0 hj⟩
  have x1:=a3 x (zA2 hx)
  have hLx:L[x.2.2.toNat]? =some (L.getD x.2.2.toNat false):=Go.Lx.getD_some (by omega)
  rw[drop_cons hx,zzj]at j2
  generalize hb:L.getD x.2.2.toNat false=b at *
  clear hb
  by_cases hr:(x.1≤c∧c≤x.2.1)∧b=true
  ·rw[zAz hr]at j2
   rw[←j2]
   obtain⟨⟨r1,r2⟩,rfl⟩:=hr
   clear ih
   repeat' first|(apply z0b;refine z5c hX ?_)|(apply z01;refine z07 (z11 (ys:=l.map z3g) rfl (idx hx)) rfl rfl ?_)|(apply z02;refine z0c (z11 (ys:=L.map boc) rfl (zam (g:=boc) hLx)) rfl rfl ?_)|(apply z1s;refine z09 z4t ?_)|refine z04 ?_|refine fk (fun _=>?_) (fun _=>?_)|(refine z13 (fun hg=>?_) (fun hg=>?_)<;> simp only[hg] <;> (try simp only[zA3,zA5,zA6,zA8]at hg))
   all_goals try (exfalso;first|omega|(simp at *;done))
   all_goals exact zD86
  ·rw[zAy hr]at j2
   have ih':=ih (j+1) ⟨by omega,j2⟩ (by omega)
   clear ih
   cases b
   all_goals repeat' first|(apply z0b;refine z5c hX ?_)|(apply z01;refine z07 (z11 (ys:=l.map z3g) rfl (idx hx)) rfl rfl ?_)|(apply z02;refine z0c (z11 (ys:=L.map boc) rfl (zam (g:=boc) hLx)) rfl rfl ?_)|(apply z1s;refine z09 z4t ?_)|refine z04 ?_|refine fk (fun _=>?_) (fun _=>?_)|(refine z13 (fun hg=>?_) (fun hg=>?_)<;> simp only[hg] <;> (try simp only[zA3,zA5,zA6,zA8]at hg))
   all_goals try (exfalso;first|omega|(simp at *;done)|(simp at *;omega))
   all_goals exact z00 ih' rfl rfl
 ·obtain rfl:j=l.length:=by omega
  rw[zAs,zzj]at j2
  rw[←j2]
  clear ih
  repeat' first|refine z04 ?_|refine fk (fun _=>?_) fun _=>?_
  all_goals try omega
  all_goals exact zD86
end
theorem y1w(c:Int):(Utf8.encode c).size=zE c:=by
 have:=z3r (Utf8.encode c)
 rw[z6o]at this
 rw[←this];rfl
theorem zk4{s:ByteArray}(h:zcs s=true):∀u∈rst s 0,u.n=zE u.r:=by
 have hs:=zct h
 have hv':∀c∈Go.Rx.z30 s,Utf8.valid c=true:=fun c hc=>zch.1 (zb4 c hc)
 have e:=y3o hv'
 rw[←hs]at e
 rw[e]
 generalize Go.Rx.z30 s=l
 intro u hu
 induction l with
 | nil=>simp[mkU]at hu
 | cons c l ih =>
  rw[mkU]at hu
  rcases zAc.1 hu with rfl|hu
  ·rfl
  ·exact ih hu
theorem zrv{F:List Bool}{A:List (List Arc)}(h:zfy F A)(L:List Bool)(q:Nat)(hq:q<F.length)(c:Int)(hs:¬stL ⟨F,A⟩ L q c<0):∃p:Nat,stL ⟨F,A⟩ L q c=p∧p<F.length:=by
 have hAF:=h.len
 obtain⟨l,hl⟩:∃l,A[q]? =some l:=⟨_,zA0 (by omega)⟩
 obtain⟨a1,a2,a3⟩:=h.arc l (zA2 hl)
 have e:Au.nx ⟨F,A⟩ (q:Nat) c=nxt l c:=by
  rw[Au.nx,Au.arcs,zAy (by omega),zA9,List.getD,hl];rfl
 rw[stL,e]at hs⊢
 have key:∀(m:List Arc),(∀x∈m,0≤x.2.2∧x.2.2<F.length)→nxt m c<F.length:=fun m=>by
  induction m with
  | nil=>intro _;rw[nxt];omega
  | cons x m ih =>
   intro hm
   rw[nxt]
   split
   ·exact(hm x (by simp)).2
   ·exact ih fun y hy=>hm y (by simp[hy])
 have hk:=key l fun x hx=>by have:=a3 x hx;omega
 split
 ·rename_i g;exact⟨(nxt l c).toNat,by omega,by omega⟩
 ·rename_i g;rw[zAy g]at hs;omega
section
variable{X:Nat}
theorem ya2(F:List Bool)(A:List (List Arc))(L:List Bool)(h:zfy F A)(hL:L.length=F.length)(w:ByteArray)(hv:zcs w=true)(hs:w.size≤100000)(e0:Nat) :
 z0u prog 45 [.ptr (e0,X) 0,S w] [((e0,X),zww F A L)] [] (.tup [B (zn0 ⟨F,A⟩ L 0 (Go.Rx.z30 w) 0).1,I .i64 (zn0 ⟨F,A⟩ L 0 (Go.Rx.z30 w) 0).2]):=by
 refine z0v fun H hH=>?_
 have hX:=hH ((e0,X),zww F A L) (by simp)
 obtain⟨R,hR⟩:∃R,zn0 ⟨F,A⟩ L 0 (Go.Rx.z30 w) 0=R:=⟨_,rfl⟩
 rw[hR]
 have hpos:=h.pos
 refine z05 func45 (by kernel_rfl) rfl (by simp) ?_
 dsimp only[f45]
 repeat' first|refine z04 ?_|(apply z0r;refine z95 rfl rfl rfl (by decide) ?_)
 all_goals try omega
 refine z0f ?_
 refine z00 (z0s (fun z:Nat × Nat=>⟨34,[(0,.ptr (e0+1,X) 0),(6,I .i64 (z.2:Nat)),(10,.ptr (0,10) 0)],[(10,.siter w z.1)],H⟩)
  (fun z=>z.1≤w.size∧z.2<F.length∧(∀u∈rst w z.1,u.n=zE u.r)∧zn0 ⟨F,A⟩ L z.2 ((rst w z.1).map (·.r)) z.1=R) (fun z=>w.size-z.1) ?_ (0,0) ⟨zAf _,hpos,zk4 hv,hR⟩) rfl rfl
 rintro⟨i,q⟩ ⟨i1,i2,i3,i4⟩ ih
 simp only at i1 i2 i3 i4 ih⊢
 by_cases hlt:i<w.size
 ·have hd:=z5y hlt
  have hw:=z8r w i hlt
  have hdh:=zg7 w i
  rw[hd]at i3 i4
  have hwz:=i3 _ (List.mem_cons_self ..)
  simp only at hwz
  rw[List.map_cons,zn0]at i4
  simp only at i4
  have hst:=zsc (X:=X) F A L h hL q i2 ((Utf8.decode w i).1:Nat) (e0+1)
  have hes:=y1w ((Utf8.decode w i).1:Nat)
  by_cases hg:stL ⟨F,A⟩ L q ((Utf8.decode w i).1:Nat)<0
  ·rw[zAz hg,←hes]at i4
   rw[←i4]
   clear ih
   generalize stL ⟨F,A⟩ L q ((Utf8.decode w i).1:Nat)=p at *
   repeat' first|(apply z06;refine z3x hst (z1q (m:=(e0+1,X)) hX z5l) ?_)|(apply z4q;refine z07 (z6p rfl rfl) rfl rfl ?_)|refine z04 ?_|refine fk (fun _=>?_) (fun _=>?_)|(apply z0r;refine z1r hlt rfl rfl (by decide) ?_)
   all_goals exact zD74
  ·rw[zAy hg]at i4
   obtain⟨p,hp1,hp2⟩:=zrv h L q i2 _ hg
   rw[hp1,←hwz]at i4
   rw[hp1]at hst
   have ih':=ih (i+(Utf8.decode w i).2,p) ⟨by simp only;omega,hp2,fun u hu=>i3 u (List.mem_cons_of_mem _ hu),i4⟩ (by simp only;omega)
   simp only at ih'
   clear ih hg hp1 i3 i4
   repeat' first|(apply z06;refine z3x hst (z1q (m:=(e0+1,X)) hX z5l) ?_)|refine z04 ?_|(apply z0r;refine z1r hlt rfl rfl (by decide) ?_)
   all_goals exact zD8
 ·obtain rfl:i=w.size:=by omega
  rw[z3i (zAj _),List.map_nil,zn0]at i4
  have hf:F[q]? =some (F.getD q false):=Go.Lx.getD_some i2
  have hfin:Au.fin ⟨F,A⟩ (q:Nat)=F.getD q false:=by rw[Au.fin,zAy (by omega),zA9]
  rw[hfin]at i4
  rw[←i4]
  clear ih
  generalize F.getD q false=b at *
  repeat' first|(apply z1f;refine zcl hX ?_)|(apply z01;refine z07 (z11 (ys:=F.map boc) rfl (idx (g:=boc) hf)) rfl rfl ?_)|refine z04 ?_|(apply z0r;refine z2l hlt rfl rfl (by decide) ?_)
  all_goals exact zD74
end
theorem zje:∀(a b:List UInt8),(a.map UInt8.toNat).isPrefixOf (b.map UInt8.toNat)=a.isPrefixOf b
 | [],b=>by simp[List.isPrefixOf]
 | x::a,[]=>by simp[List.isPrefixOf]
 | x::a,y::b=>by
  rw[List.map_cons,List.map_cons,List.isPrefixOf,List.isPrefixOf,zje a b]
  congr 1
  rw[Bool.eq_iff_iff,beq_iff_eq,beq_iff_eq]
  exact⟨fun h=>UInt8.toNat.inj h,fun h=>by rw[h]⟩
theorem zx4(s p:ByteArray):z0a prog 70 [S s,S p] (B (zgp p s)):=by
 refine z8a ⟨_,func70,by kernel_rfl,by kernel_rfl⟩ fun β own w vals hA=>?_
 obtain⟨hl,ha⟩:=hA
 obtain⟨v,u,rfl⟩:∃v u,vals=[v,u]:=by
  match vals,hl with
  | [v,u],_=>exact⟨v,u,rfl⟩
 have hv:=PR.lit (ha 0 _ v rfl rfl)
 have hu:=PR.lit (ha 1 _ u rfl rfl)
 subst hv hu
 have e:zgp p s=Lib.hasPrefix s.data.toList p.data.toList:=by rw[zgp,btN,btN,zje];rfl
 rw[e]
 exact⟨_,strings_HasPrefix s p w,fun w' own'=>PR.B _⟩
section
variable{X:Nat}{W:List ByteArray}(C:List Nat)(rv:D)
theorem y8b(e0:Nat)(w:ByteArray)(i:Nat)(hi:i<W.length):z0u prog 68 [.d (.lit (.int .i64 (i:Nat))),.ptr (1,2) 0,.ptr (1,3) 0] [((1,2),.box [.ptr (e0+1,X) 0]),((1,3),.box [S w]),((e0+2,X),lexB W C rv)] [] (B (!ltS (wd W i) w)):=by
 refine z0v fun H hH=>?_
 have hA:=hH ((1,2),.box [.ptr (e0+1,X) 0]) (by simp)
 have hB:=hH ((1,3),.box [S w]) (by simp)
 have hX:=hH ((e0+2,X),lexB W C rv) (by simp)
 refine z05 func68 (by kernel_rfl) rfl (by simp) ?_
 dsimp only[f68]
 have hw:=z4s hi
 rw[←zdx]
 repeat' first|(apply z0b;first|refine z5c hX ?_| refine z5c hB ?_| refine z5c hA ?_)|(apply z02;refine z0c (z11 (ys:=W.map stc) rfl (idx hw)) rfl rfl ?_)|refine z04 ?_|fail
 all_goals ((repeat rw[z1v]);first|exact z03 func68 _ (z0h rfl rfl rfl rfl rfl rfl rfl) ⟨rfl,rfl⟩|exact z03 func68 _ z1z ⟨rfl,rfl⟩|exact z03 func68 _ z1h ⟨rfl,rfl⟩|exact z03 func68 _ z7k ⟨rfl,rfl⟩)
theorem y80(e0:Nat)(p:ByteArray)(lo i:Nat)(hi:lo+i<W.length)(hl:W.length≤1000000):z0u prog 69 [.d (.lit (.int .i64 (i:Nat))),.ptr (1,2) 0,.ptr (1,6) 0,.ptr (1,3) 0] [((1,2),.box [.ptr (e0+1,X) 0]),((1,6),.box [I .i64 (lo:Nat)]),((1,3),.box [S p]),((e0+2,X),lexB W C rv)] [] (B (!zgp p (wd W (lo+i)))):=by
 refine z0v fun H hH=>?_
 have hA:=hH ((1,2),.box [.ptr (e0+1,X) 0]) (by simp)
 have hL:=hH ((1,6),.box [I .i64 (lo:Nat)]) (by simp)
 have hB:=hH ((1,3),.box [S p]) (by simp)
 have hX:=hH ((e0+2,X),lexB W C rv) (by simp)
 have hw:=z4s hi
 have hpr:=zx4 (wd W (lo+i)) p
 generalize wd W (lo+i)=w at *
 refine z05 func69 (by kernel_rfl) rfl (by simp) ?_
 dsimp only[f69]
 have hw':W[(((lo:Nat):Int)+((i:Nat):Int)).toNat]? =some w:=by rw[show(((lo:Nat):Int)+((i:Nat):Int)).toNat=lo+i by omega];exact hw
 repeat' first|(apply z0b;first|refine z5c hX ?_| refine z5c hL ?_| refine z5c hB ?_| refine z5c hA ?_)|(apply z02;refine z0c (z11 (ys:=W.map stc) rfl (zam hw')) rfl rfl ?_)|(apply z0l;refine z3t hpr ?_)|refine z04 ?_|fail
 all_goals ((repeat rw[z1v]);first|exact z03 func69 _ (z0h rfl rfl rfl rfl rfl rfl rfl) ⟨rfl,rfl⟩|exact z03 func69 _ z1z ⟨rfl,rfl⟩|exact z03 func69 _ z1h ⟨rfl,rfl⟩|exact z03 func69 _ z7k ⟨rfl,rfl⟩)
theorem zxz(e0:Nat)(h:zc8 W)(hl:W.length≤1000000)(p:ByteArray):z0u prog 31 [.ptr (e0,X) 0,S p] [((e0,X),lexB W C rv)] [] (.tup [I .i64 ((zw8 W p).1:Nat),I .i64 ((zw8 W p).2:Nat)]):=by
 refine z0v fun H hH=>?_
 have hX:=hH ((e0,X),lexB W C rv) (by simp)
 have hse:=zkc (X:=X) C rv e0 h hl p 68 fun i hi=>y8b C rv e0 p i hi
 have hlo:=lo_le h p
 have hcn:zks W p≤W.length-loS W p:=(z42 _ _).1
 have hs2:z0u prog 67 [I .i64 ((W.length:Int)-(loS W p:Nat)),.fn (.func 69) [] [.ptr (0,2) 0,.ptr (0,6) 0,.ptr (0,3) 0]] [((0,2),.box [.ptr (e0+1,X) 0]),((0,6),.box [I .i64 (loS W p:Nat)]),((0,3),.box [S p]),((e0+1,X),lexB W C rv)] [] (I .i64 (zks W p:Nat)):=by
  rw[show(W.length:Int)-(loS W p:Nat)=((W.length-loS W p:Nat):Int) by omega]
  refine z0v fun H hH=>?_
  have hA:=hH ((0,2),.box [.ptr (e0+1,X) 0]) (by simp)
  have hL:=hH ((0,6),.box [I .i64 (loS W p:Nat)]) (by simp)
  have hB:=hH ((0,3),.box [S p]) (by simp)
  have hX:=hH ((e0+1,X),lexB W C rv) (by simp)
  refine zgy (W.length-loS W p) (by omega) 69 [.ptr (0,2) 0,.ptr (0,6) 0,.ptr (0,3) 0] [((1,2),.box [.ptr (e0+1,X) 0]),((1,6),.box [I .i64 (loS W p:Nat)]),((1,3),.box [S p]),((e0+2,X),lexB W C rv)] (fun k=>!zgp p (wd W (loS W p+k))) (fun i j hij hj hi=>?_) H (fun i hi=>y80 C rv e0 p (loS W p) i (by omega) hl) fun n tm hp=>by simp[BkE,z3h,push,hA,hL,hB,hX]
  simp only[zA6]at hi⊢
  cases e:zgp p (wd W (loS W p+j))with
  | false=>rfl
  | true =>
   have h1:=(zh2 h p (by omega)).1 e
   have h2:=(zh2 h p (i:=loS W p+i) (by omega)).2 ⟨by omega,by omega⟩
   rw[h2]at hi;cases hi
 rw[zw8]
 generalize loS W p=lo at *
 generalize zks W p=n at *
 refine z05 func31 (by kernel_rfl) rfl (by simp) ?_
 dsimp only[f31]
 have hbk:∀(n:Nat) (tm:List (Nat × PV)),BkE ⟨n,tm,[(3,.box [S p]),(2,.box [.ptr (e0+1,X) 0])],H⟩ [((0,2),.box [.ptr (e0+1,X) 0]),((0,3),.box [S p]),((e0+1,X),lexB W C rv)]:=fun n tm=>by simp[BkE,z3h,push,Ab.look,hX]
 have hb6:∀(n:Nat) (tm:List (Nat × PV)) (hp:Hp),Ab.look hp 2=some (.box [.ptr (e0+1,X) 0])→Ab.look hp 6=some (.box [I .i64 (lo:Nat)])→Ab.look hp 3=some (.box [S p])→BkE ⟨n,tm,hp,H⟩ [((0,2),.box [.ptr (e0+1,X) 0]),((0,6),.box [I .i64 (lo:Nat)]),((0,3),.box [S p]),((e0+1,X),lexB W C rv)]:=fun n tm hp h2 h6 h3=>by simp[BkE,z3h,push,h2,h6,h3,hX]
 by_cases hn:n=0
 ·subst hn
  rw[zAz rfl]
  repeat' first|(apply z0r;refine z7c rfl rfl (by decide) ?_)|(apply zle;refine zfp (by first|exact rfl|exact⟨_,rfl,rfl,rfl⟩) rfl rfl (by decide) ?_)|(apply z1f;refine zcl hX ?_)|(apply z0b;refine z5c hX ?_)|(apply z06;refine z3x hse (hbk _ _) ?_)|(apply z0l;refine za0 hs2 (by first|exact rfl|exact⟨_,rfl,rfl,rfl⟩) rfl (hb6 _ _ _ rfl rfl rfl) (by decide) ?_)|(apply z1n;refine z09 z3s ?_)|refine z04 ?_|fail
  all_goals exact zD141
 ·rw[zAy hn]
  repeat' first|(apply z0r;refine z7c rfl rfl (by decide) ?_)|(apply zle;refine zfp (by first|exact rfl|exact⟨_,rfl,rfl,rfl⟩) rfl rfl (by decide) ?_)|(apply z1f;refine zcl hX ?_)|(apply z0b;refine z5c hX ?_)|(apply z06;refine z3x hse (hbk _ _) ?_)|(apply z0l;refine za0 hs2 (by first|exact rfl|exact⟨_,rfl,rfl,rfl⟩) rfl (hb6 _ _ _ rfl rfl rfl) (by decide) ?_)|(apply z1n;refine z09 z3s ?_)|refine z04 ?_|refine fk (fun _=>?_) fun _=>?_
  all_goals exact zD141
end
theorem zzx{F:List Bool}{A:List (List Arc)}(h:A.length=F.length){q:Nat}(hl:z57 F A q):q<F.length:=by
 cases hl with
 | fin q h1=>exact(zA1.1 h1).1
 | arc q l x h1 h2 h3=>rw[←h];exact(zA1.1 h1).1
theorem y5i{a:Au}(h:AuW a)(q:Nat)(hq:(z3m a.F a.A).getD q false=false)(w:List Int):a.acc (q:Nat) w=false:=by
 cases e:a.acc (q:Nat) w with
 | false=>rfl
 | true =>
  have hl:=zdw h w q e
  rw[(z8k (zzx h.len hl)).2 hl]at hq;cases hq
def z5e(f:Nat→Bool)(n:Nat):List Int:=(sel f n).map fun(i:Nat)=>(i:Int)
def y0x(W:List ByteArray)(a:Au):PV:=if vAu a=0 then .tup [.d (inD (z5e (fun i=>a.acc 0 (Go.Rx.z30 (wd W i))) W.length)),I .i64 0]else .tup [.d (inD []),I .i64 1]
theorem y25(l:List Nat):inD (l.map fun(i:Nat)=>(i:Int))=.slice (l.map nmc):=by rw[inD,List.map_map];rfl
structure zrb(W:List ByteArray):Prop where
 asc:zc8 W
 len:W.length≤5000
 vld:∀w∈W,zcs w=true
 size:∀w∈W,w.size≤1000
section
variable{X:Nat}
theorem zca(W:List ByteArray)(C:List Nat)(rv:D)(hW:zrb W)(a:Au)(hf:zqr a)(e0:Nat):z0u prog 14 [.ptr (e0,X) 0,.d (auD a)] [((e0,X),lexB W C rv)] [] (y0x W a):=by
 refine z0v fun H hH=>?_
 have hX:=hH ((e0,X),lexB W C rv) (by simp)
 have hva:=zb0 a hf
 refine z05 func14 (by kernel_rfl) rfl (by simp) ?_
 dsimp only[f14]
 by_cases h0:vAu a=0
 case neg =>
  rw[y0x,zAy h0]
  generalize vAu a=v at *
  obtain⟨F,A⟩:=a
  repeat' first|(apply z06;refine z1o hva ?_)|(apply z1n;refine z09 z3s ?_)|refine z04 ?_|refine fk (fun _=>?_) fun _=>?_
  all_goals try omega
  all_goals refine zw4 4 rfl ?_
  all_goals exact z03 func14 _ z1z ⟨rfl,rfl⟩
 rw[h0]at hva
 rw[y0x,zAz h0]
 have hok:=(zi3 h0).1
 have hw:=zuf h0
 have hno:=y5i hw
 have hll:=zoa a.F a.A
 have hnm:=y1k a hok
 obtain⟨f,hfd⟩:∃f:Nat→Bool,(fun i=>a.acc 0 (Go.Rx.z30 (wd W i)))=f:=⟨_,rfl⟩
 have hfi:∀i,f i=a.acc 0 (Go.Rx.z30 (wd W i)):=fun i=>by rw[←hfd]
 rw[hfd]
 clear hfd
 obtain⟨L,hL⟩:∃L,z3m a.F a.A=L:=⟨_,rfl⟩
 rw[hL]at hno hll hnm
 have hmr:=fun(w:ByteArray) (hv:zcs w=true) (hs:w.size≤100000)=>ya2 (X:=17) a.F a.A L hok hll w hv hs 0
 have hpos:=hok.pos
 obtain⟨F,A⟩:=a
 simp only at hnm hll hpos hmr hL hok
 have hspec:=fun(w:ByteArray)=>zda (a:=⟨F,A⟩) hno (Go.Rx.z30 w) 0 0
 have hdead:=fun(w w':ByteArray) (h1:zcs w=true) (h2:zcs w'=true) (d:Nat)=>y02 (a:=⟨F,A⟩) (w:=w) (w':=w') hno h1 h2 (d:=d)
 have hL0:L[(0:Int).toNat]? =some (L.getD 0 false):=Go.Lx.getD_some (by show 0<L.length;omega)
 have hz:L.getD 0 false=false→sel f W.length=[]:=fun h=>by
  rw[zcg (n:=0) (zAf _) fun i _ _=>by rw[hfi];exact hno 0 h _];rfl
 have hsz:=zjo (X:=X) W C rv (e0+1)
 have hwo:=fun(i:Nat) (hi:i<W.length)=>zrm (X:=X) W C rv (e0+1) i hi
 have hpf:=fun(p:ByteArray)=>zxz (X:=X) (W:=W) C rv (e0+1) hW.asc (by have:=hW.len;omega) p
 have hWl:=hW.len
 repeat' (first | (apply z06; (first | refine z1o hva ?_| (refine zbc rfl (hnm _) (by decide) rfl (fun r H' h => ⟨_, h.1, h.2, rfl, rfl, ?_⟩)) /- z65 -/)) | (apply z1n; (refine z09 z3s ?_)) | refine z04 ?_ | fail)
 all_goals try omega
 refine z1j 7 1000 3 1 rfl rfl rfl ?_
 refine z0f ?_
 refine z00 (z0s (fun z:Nat × List Nat=>⟨60,[(0,.ptr (e0+1,X) 0),(6,.ptr (0,17) 0),(7,.ref (0,1000)),(8,I .i64 (z.1:Nat))],[(17,zww F A L),(1000,.row 3 1 (z.2.map nmc))],H⟩) (fun z=>z.1≤W.length∧z.2=sel f z.1) (fun z=>W.length-z.1) ?_ (0,[]) ⟨zAf _,rfl⟩) rfl rfl
 rintro⟨n,out⟩ ⟨i1,i2⟩ ih
 simp only at i1 i2 ih⊢
 have hol:out.length≤n:=by rw[i2];exact zli f n
 have hbX:∀(n:Nat) (tm:List (Nat × PV)) (hp:Hp),BkE ⟨n,tm,hp,H⟩ [((e0+1,X),lexB W C rv)]:=fun n tm hp=>z1q (m:=(e0+1,X)) hX z5l
 by_cases hl0:L.getD 0 false=true
 case neg =>
  rw[Bool.not_eq_true]at hl0
  rw[z5e,hz hl0]
  have hz2:out=[]:=by
   rw[i2,zcg (n:=0) (zAf _) fun i _ _=>by rw[hfi];exact hno 0 hl0 _];rfl
  subst hz2
  rw[hl0]at hL0
  clear ih
  refine z0o 1000 rfl ?_
  repeat' first|(apply z01;refine z07 (z11 (ys:=L.map boc) rfl (idx (g:=boc) hL0)) rfl rfl ?_)|refine z04 ?_|fail
  all_goals try omega
  all_goals exact z03 func14 _ z1z ⟨rfl,rfl⟩
 rw[hl0]at hL0
 by_cases hlt:n<W.length
 ·have hwd:=hwo n hlt
  have hvw:=hW.vld _ (z9t hlt)
  have hsw:=hW.size _ (z9t hlt)
  have hm:=hmr (wd W n) hvw (by omega)
  have hsp:=hspec (wd W n)
  have hde:=fun(w':ByteArray) (h2:zcs w'=true) (d:Nat)=>hdead (wd W n) w' hvw h2 d
  have hfn:=hfi n
  generalize zn0 ⟨F,A⟩ L 0 (Go.Rx.z30 (wd W n)) 0=r at *
  obtain⟨acc,dead⟩:=r
  simp only at hm hsp hde
  have hwn:=z4s hlt
  by_cases hd:0<dead
  ·obtain⟨u,v,e1,e2,e3,e4⟩:=hsp.2 hd
   have hdl:dead≤(wd W n).size:=by
    have hb:=ybq hvw
    have h1:=z3r (wd W n)
    rw[hb,e1,zm2,zAa]at h1
    omega
   have hpre:btN ((wd W n).extract 0 dead)=(btN (wd W n)).take dead:=zl6 _ _
   have hps:zgp ((wd W n).extract 0 dead) (wd W n)=true:=za3.2 (by rw[hpre];exact List.take_prefix _ _)
   obtain⟨p1,p2,p3⟩:=zyj hW.asc ((wd W n).extract 0 dead) hlt hps
   have hp:=hpf ((wd W n).extract 0 dead)
   have hskip:sel f (zw8 W ((wd W n).extract 0 dead)).2=sel f n:=zcg (by omega) fun i g1 g2=>by
    have h3:=za3.1 (p3 i g1 g2)
    rw[hpre]at h3
    rw[hfi]
    exact hde (wd W i) (hW.vld _ (z9t (by omega))) dead rfl hd h3
   have ih':=ih ((zw8 W ((wd W n).extract 0 dead)).2,out) ⟨by simp only;omega,by simp only;rw[hskip];exact i2⟩ (by simp only;omega)
   simp only at ih'
   clear ih hskip p3 hde hsp
   generalize (zw8 W ((wd W n).extract 0 dead)).1=m1 at *
   generalize (zw8 W ((wd W n).extract 0 dead)).2=m2 at *
   generalize wd W n=w at *
   repeat' first|(apply z01;refine z07 (z11 (ys:=L.map boc) rfl (idx (g:=boc) hL0)) rfl rfl ?_)|(apply z98;refine z07 (z9j rfl (by omega) (by omega)) rfl rfl ?_)|(apply z06;first|refine z3x hp (hbX _ _ _) ?_| refine z8x hm rfl (z1q (m:=(0,17)) rfl z5l) (by decide) ?_|refine z3x hwd (hbX _ _ _) ?_| refine z3x hsz (hbX _ _ _) ?_)|refine z04 ?_|refine fk (fun _=>?_) fun _=>?_
   all_goals exact zD8
  ·have hd0:dead=0:=by omega
   have ha:=hsp.1 hd0
   rw[←hfn]at ha
   subst hd0
   have ih':=ih (n+1,out++if acc=true then [n]else []) ⟨by simp only;omega,by simp only;rw[zcw,←i2,ha]⟩ (by simp only;omega)
   simp only at ih'
   clear ih hde hsp hfn
   generalize wd W n=w at *
   cases acc with
   | true =>
    rw[zAz rfl]at ih'
    repeat' first|(apply z01;refine z07 (z11 (ys:=L.map boc) rfl (idx (g:=boc) hL0)) rfl rfl ?_)|(apply z14;refine z2w (g:=nmc) n rfl ?_)|(apply z06;first|refine z8x hm rfl (z1q (m:=(0,17)) rfl z5l) (by decide) ?_|refine z3x hwd (hbX _ _ _) ?_| refine z3x hsz (hbX _ _ _) ?_)|refine z04 ?_|refine fk (fun _=>?_) fun _=>?_
    all_goals try omega
    refine z1d 56 1000 ?_
    exact z00 ih' rfl rfl
   | false =>
    rw[zAy (by decide),List.append_nil]at ih'
    repeat' first|(apply z01;refine z07 (z11 (ys:=L.map boc) rfl (idx (g:=boc) hL0)) rfl rfl ?_)|(apply z06;first|refine z8x hm rfl (z1q (m:=(0,17)) rfl z5l) (by decide) ?_|refine z3x hwd (hbX _ _ _) ?_| refine z3x hsz (hbX _ _ _) ?_)|refine z04 ?_|refine fk (fun _=>?_) fun _=>?_
    all_goals exact zD8
 ·obtain rfl:n=W.length:=by omega
  rw[z5e,←i2,y25]
  clear ih
  refine z0o 1000 rfl ?_
  repeat' first|(apply z01;refine z07 (z11 (ys:=L.map boc) rfl (idx (g:=boc) hL0)) rfl rfl ?_)|(apply z06;refine z3x hsz (hbX _ _ _) ?_)|refine z04 ?_|refine fk (fun _=>?_) fun _=>?_
  all_goals try omega
  all_goals exact z03 func14 _ z1z ⟨rfl,rfl⟩
end
noncomputable def yb0(W:List ByteArray)(a:Au):PV:=if vAu a=0 then .tup [I .i64 (yb9 W a),I .i64 0]else .tup [I .i64 0,I .i64 1]
theorem zed{P:Program}{src dst:TypeId}{ty:TypeId}{x:Operand}{k:IntKind}{b:Int}{es:ByteArray}(he:Utf8.encode b=es){t1 t2:TI}[h1:z0n P src t1][h2:z0n P dst t2](hk:t2.kind=.str)(hk1:t1.kind=.int k) :
 Val P (.convert src dst x) ty [(x,I k b)] [] (S es):=he▸z6p hk hk1
section
variable{X:Nat}
theorem zx8(W:List ByteArray)(C:List Nat)(rv:D)(hW:zrb W)(a:Au)(hf:zqr a)(e0:Nat):z0u prog 18 [.ptr (e0,X) 0,.d (auD a)] [((e0,X),lexB W C rv)] [] (yb0 W a):=by
 refine z0v fun H hH=>?_
 have hX:=hH ((e0,X),lexB W C rv) (by simp)
 have hva:=zb0 a hf
 refine z05 func18 (by kernel_rfl) rfl (by simp) ?_
 dsimp only[f18]
 by_cases h0:vAu a=0
 case neg =>
  rw[yb0,zAy h0]
  generalize vAu a=v at *
  obtain⟨F,A⟩:=a
  repeat' first|(apply z06;refine z1o hva ?_)|(apply z1n;refine z09 z3s ?_)|refine z04 ?_|refine fk (fun _=>?_) fun _=>?_
  all_goals try omega
  all_goals exact z03 func18 _ z1z ⟨rfl,rfl⟩
 rw[h0]at hva
 rw[yb0,zAz h0,yb9]
 have hok:=(zi3 h0).1
 have hll:=zoa a.F a.A
 have hnm:=y1k a hok
 obtain⟨L,hL⟩:∃L,z3m a.F a.A=L:=⟨_,rfl⟩
 rw[hL]at hll hnm⊢
 have hpos:=hok.pos
 obtain⟨F,A⟩:=a
 simp only at hnm hll hpos hL hok
 have hst:=fun(q:Nat) (hq:q<F.length) (c:Int)=>zsc (X:=20) F A L hok hll q hq c 0
 have hrng:=fun(q:Nat) (hq:q<F.length) (c:Int)=>zrv hok L q hq c
 have hL0:L[(0:Int).toNat]? =some (L.getD 0 false):=Go.Lx.getD_some (by show 0<L.length;omega)
 have hsz:=zjo (X:=X) W C rv (e0+1)
 have hwo:=fun(i:Nat) (hi:i<W.length)=>zrm (X:=X) W C rv (e0+1) i hi
 have hWl:=hW.len
 have hbX:∀(n:Nat) (tm:List (Nat × PV)) (hp:Hp),BkE ⟨n,tm,hp,H⟩ [((e0+1,X),lexB W C rv)]:=fun n tm hp=>z1q (m:=(e0+1,X)) hX z5l
 by_cases hz:W.length=0∨L.getD 0 false=false
 ·rw[zAz hz]
  generalize L.getD 0 false=l0 at *
  repeat' (first | (apply z01; (refine z07 (z11 (ys := L.map boc) rfl (idx (g := boc) hL0)) rfl rfl ?_)) | (apply z06; (first | refine z3x hsz (hbX _ _ _) ?_| refine z1o hva ?_| (refine zbc rfl (hnm _) (by decide) rfl (fun r H' h => ⟨_, h.1, h.2, rfl, rfl, ?_⟩)) /- z65 -/)) | (apply z1n; (refine z09 z3s ?_)) | refine z04 ?_ | refine fk (fun _ => ?_) (fun _ => ?_))
  all_goals try omega
  all_goals try (exfalso;simp_all;done)
  all_goals exact z03 func18 _ z1z ⟨rfl,rfl⟩
 rw[zAy hz]
 rw[not_or,Bool.not_eq_false]at hz
 obtain⟨hz1,hz2⟩:=hz
 rw[hz2]at hL0
 obtain⟨T,hT⟩:∃T,1+zwo ⟨F,A⟩ L ByteArray.empty W=T:=⟨_,rfl⟩
 have hTl:T≤5000001:=by
  have:=zrc (a:=⟨F,A⟩) (lv:=L) (W:=W) ByteArray.empty hW.size
  omega
 rw[hT]
 repeat' (first | (apply z01; (refine z07 (z11 (ys := L.map boc) rfl (idx (g := boc) hL0)) rfl rfl ?_)) | (apply z06; (first | refine z3x hsz (hbX _ _ _) ?_| refine z1o hva ?_| (refine zbc rfl (hnm _) (by decide) rfl (fun r H' h => ⟨_, h.1, h.2, rfl, rfl, ?_⟩)) /- z65 -/)) | (apply z1n; (refine z09 z3s ?_)) | refine z04 ?_ | refine fk (fun _ => ?_) (fun _ => ?_))
 all_goals try omega
 all_goals try (exfalso;simp_all;done)
 refine z0f ?_
 refine z00 (z0s (fun z:Nat × Nat × ByteArray=>⟨79,[(0,.ptr (e0+1,X) 0),(6,.ptr (0,20) 0),(7,I .i64 (z.2.1:Nat)),(8,S z.2.2),(34,I .i64 W.length),(35,I .i64 (z.1:Nat))],[(20,zww F A L)],H⟩) (fun z=>z.1≤W.length∧z.2.1+zwo ⟨F,A⟩ L z.2.2 (W.drop z.1)=T) (fun z=>W.length-z.1) ?_ (0,1,ByteArray.empty) ⟨zAf _,hT⟩) rfl rfl
 rintro⟨n,cnt,b⟩ ⟨i1,i2⟩ ih
 simp only at i1 i2 ih⊢
 by_cases hlt:n<W.length
 ·have hwd:=hwo n hlt
  have hvw:=hW.vld _ (z9t hlt)
  have hsw:=hW.size _ (z9t hlt)
  rw[drop_cons (z4s hlt),zwo]at i2
  generalize wd W n=w at *
  obtain⟨R,hR⟩:∃R,zwo ⟨F,A⟩ L w (W.drop (n+1))=R:=⟨_,rfl⟩
  rw[hR]at i2
  have ih1:=ih (n+1,T-R,w) ⟨by simp only;omega,by simp only;omega⟩ (by simp only;omega)
  simp only at ih1
  have hRT:R≤T:=by omega
  clear ih
  repeat' first|(apply z06;refine z3x hwd (hbX _ _ _) ?_)|refine z04 ?_|refine fk (fun _=>?_) (fun _=>?_)|(apply z0r;refine z95 rfl rfl rfl (by decide) ?_)
  all_goals try omega
  refine z0f ?_
  refine z00 (z0s (fun z:Nat × Nat × Nat=>⟨79,[(0,.ptr (e0+1,X) 0),(6,.ptr (0,20) 0),(7,I .i64 (z.2.2:Nat)),(8,S b),(34,I .i64 W.length),(35,I .i64 (n:Nat)),(10,S w),(12,I .i64 (z.2.1:Nat)),(45,.ptr (0,45) 0)],[(45,.siter w z.1),(20,zww F A L)],H⟩)
   (fun z=>z.1≤w.size∧z.2.1<F.length∧(∀u∈rst w z.1,u.n=zE u.r)∧z.2.2+(((lvP ⟨F,A⟩ L z.2.1 ((rst w z.1).map (·.r)) z.1).filter (zwl b w)).length+R)=T) (fun z=>w.size-z.1) ?_ (0,0,cnt) ⟨zAf _,hpos,zk4 hvw,i2⟩) rfl rfl
  rintro⟨i,q,ct⟩ ⟨j1,j2,j3,j4⟩ ih
  simp only at j1 j2 j3 j4 ih⊢
  by_cases hlt2:i<w.size
  ·have hd:=z5y hlt2
   have hw:=z8r w i hlt2
   have hdh:=zg7 w i
   rw[hd]at j3 j4
   have hwz:=j3 _ (List.mem_cons_self ..)
   simp only at hwz
   rw[List.map_cons,lvP]at j4
   simp only at j4
   have hst1:=hst q j2 ((Utf8.decode w i).1:Nat)
   have hes:=y1w ((Utf8.decode w i).1:Nat)
   by_cases hg:stL ⟨F,A⟩ L q ((Utf8.decode w i).1:Nat)<0
   ·rw[zAz hg,List.filter_nil,List.length_nil]at j4
    rw[show T-R=ct by omega]at ih1
    clear ih
    have hm1:stL ⟨F,A⟩ L q ((Utf8.decode w i).1:Nat)=-1:=by
     rw[stL]at hg⊢
     split
     ·rename_i g;rw[zAz g]at hg;omega
     ·rfl
    rw[hm1]at hst1
    repeat' first|(apply z06;refine z8x hst1 rfl (z1q (m:=(0,20)) rfl z5l) (by decide) ?_)|refine z04 ?_|(apply z0r;refine z1r hlt2 rfl rfl (by decide) ?_)
    all_goals try omega
    all_goals exact z00 ih1 rfl rfl
   ·rw[zAy hg]at j4
    obtain⟨p,hp1,hp2⟩:=hrng q j2 _ hg
    rw[hp1,←hes,List.filter_cons]at j4
    rw[hp1]at hst1
    have hee:i+(Utf8.encode ((Utf8.decode w i).1:Nat)).size≤w.size:=by
     rw[hes,←hwz];omega
    have hie:i+(Utf8.decode w i).2=i+(Utf8.encode ((Utf8.decode w i).1:Nat)).size:=by rw[hes,←hwz]
    have hto:(((i:Nat):Int)+(((Utf8.encode ((Utf8.decode w i).1:Nat)).size:Nat):Int)).toNat=i+(Utf8.decode w i).2:=by omega
    have hyes:=zzv (b:=b) (w:=w) (e:=i+(Utf8.decode w i).2)
    have heq:=y4x (b:=b) (w:=w) (e:=i+(Utf8.decode w i).2)
    have j3':=fun u hu=>j3 u (List.mem_cons_of_mem _ hu)
    rw[←hie]at j4
    have ih':=fun(b2:Bool) (hb2:zwl b w (i+(Utf8.decode w i).2)=b2)=>ih (i+(Utf8.decode w i).2,p,if b2=true then ct+1 else ct) ⟨by simp only;omega,hp2,j3',by simp only;rw[←j4,hb2];cases b2 with|true=>(rw[zAz rfl,zAz rfl,zAk];omega)|false=>(rw[zAy Bool.false_ne_true,zAy Bool.false_ne_true])⟩ (by simp only;omega)
    simp only at ih'
    have hctT:ct<T∨zwl b w (i+(Utf8.decode w i).2)=false:=by
     cases hb3:zwl b w (i+(Utf8.decode w i).2)with
     | false=>exact .inr rfl
     | true=>left;rw[hb3,zAz rfl,zAk]at j4;omega
    clear hes hwz hp1 hg ih1 j3 ih j4 j3'
    obtain⟨es,hes0⟩:∃es,Utf8.encode ((Utf8.decode w i).1:Nat)=es:=⟨_,rfl⟩
    rw[hes0]at hto hie hee
    by_cases c1:b.size<i+(Utf8.decode w i).2
    ·have ih2:=ih' true (hyes c1)
     rw[zAz rfl]at ih2
     rw[hyes c1]at hctT
     have hct2:ct<T:=by rcases hctT with g|g;exact g;cases g
     repeat' first|(apply z3p;refine z0c (z9j rfl (by omega) (by omega)) rfl rfl ?_)|(apply z06;refine z8x hst1 rfl (z1q (m:=(0,20)) rfl z5l) (by decide) ?_)|(apply z4q;refine z07 (zed hes0 rfl rfl) rfl rfl ?_)|refine z04 ?_|refine fk (fun _=>?_) (fun _=>?_)|(apply z0r;refine z1r hlt2 rfl rfl (by decide) ?_)|(refine z13 (fun hg=>?_) (fun hg=>?_)<;> simp only[hg] <;> (try simp only[zA3,zA5,zA6,zA8]at hg))
     all_goals try omega
     all_goals exact z00 ih2 rfl rfl
    ·rw[heq c1]at hctT ih'
     by_cases c2:b.extract 0 (i+(Utf8.decode w i).2)=w.extract 0 (i+(Utf8.decode w i).2)
     ·have ih2:=ih' false (by rw[zAi c2];rfl)
      rw[zAy (by decide)]at ih2
      exact zD24
     ·rw[zAo c2]at hctT ih'
      have ih2:=ih' true rfl
      rw[zAz rfl]at ih2
      have hct2:ct<T:=by rcases hctT with g|g;exact g;cases g
      exact zD24
  ·obtain rfl:i=w.size:=by omega
   rw[z3i (zAj _),List.map_nil,lvP,List.filter_nil,List.length_nil]at j4
   rw[show T-R=ct by omega]at ih1
   clear ih
   repeat' first|refine z04 ?_|(apply z0r;refine z2l hlt2 rfl rfl (by decide) ?_)
   all_goals try omega
   all_goals exact z00 ih1 rfl rfl
 ·obtain rfl:n=W.length:=by omega
  rw[zAs,zwo,Nat.add_zero]at i2
  rw[←i2]
  clear ih
  repeat' first|refine z04 ?_|refine fk (fun _=>?_) fun _=>?_
  all_goals try omega
  all_goals exact z03 func18 _ z1z ⟨rfl,rfl⟩
end
section
variable{X:Nat}
theorem zxk(W:List ByteArray)(C:List Nat)(rv:D)(hl:W.length≤5000)(g:Nat)(bs1:List (Nm × Blk))(f:ByteArray→Bool)(hf:∀w∈W,z0u prog g ([S w]++[.ptr (1,3) 0]) bs1 [] (B (f w)))(e0:Nat)(H:Hf)
 (hX:H e0 X=some (lexB W C rv)) (hb:∀(n:Nat) (tm:List (Nat × PV)) (hp:Hp),BkE ⟨n,tm,hp,H⟩ bs1) :
 Ab.Spec prog 59 [.ptr (e0,X) 0,.fn (.func g) [] [.ptr (0,3) 0]] H (fun r H'=>r=.v (.d (inD (z5e (fun i=>f (wd W i)) W.length)))∧H'=H):=by
 have hX:H ((e0,X),lexB W C rv).1.1 ((e0,X),lexB W C rv).1.2=some ((e0,X),lexB W C rv).2:=hX
 have hsz:=zjo (X:=X) W C rv (e0+1)
 have hwo:=fun(i:Nat) (hi:i<W.length)=>zrm (X:=X) W C rv (e0+1) i hi
 have hbX:∀(n:Nat) (tm:List (Nat × PV)) (hp:Hp),BkE ⟨n,tm,hp,H⟩ [((e0+1,X),lexB W C rv)]:=fun n tm hp=>z1q (m:=(e0+1,X)) hX z5l
 refine z05 func59 (by kernel_rfl) rfl (by simp) ?_
 dsimp only[f59]
 repeat' first|(apply z06;refine z3x hsz (hbX _ _ _) ?_)|refine z04 ?_|fail
 all_goals try omega
 refine z1j 5 1000 3 1 rfl rfl rfl ?_
 refine z0f ?_
 refine z00 (z0s (fun z:Nat × List Nat=>⟨29,[(0,.ptr (e0+1,X) 0),(1,.fn (.func g) [] ([.ptr (1,3) 0])),(5,.ref (0,1000)),(10,I .i64 W.length),(11,I .i64 (z.1:Nat))],[(1000,.row 3 1 (z.2.map nmc))],H⟩) (fun z=>z.1≤W.length∧z.2=sel (fun i=>f (wd W i)) z.1) (fun z=>W.length-z.1) ?_ (0,[]) ⟨zAf _,rfl⟩) rfl rfl
 rintro⟨n,out⟩ ⟨i1,i2⟩ ih
 simp only at i1 i2 ih⊢
 have hol:out.length≤n:=by rw[i2];exact zli _ n
 by_cases hlt:n<W.length
 ·have hwd:=hwo n hlt
  have hfw:=hf _ (z9t hlt)
  have ih':=ih (n+1,out++if f (wd W n)=true then [n]else []) ⟨by simp only;omega,by simp only;rw[zcw,←i2]⟩ (by simp only;omega)
  simp only at ih'
  clear ih
  generalize wd W n=w at *
  cases hv:f w with
  | true =>
   rw[hv]at hfw ih'
   rw[zAz rfl]at ih'
   repeat' first|(apply z14;refine z2w (g:=nmc) n rfl ?_)|(apply z06;first|refine zlt (first:=[]) (cap:=[.ptr (1,3) 0]) (ps:=[S w]) hfw rfl rfl (hb _ _ _) (by decide) ?_|refine z3x hwd (hbX _ _ _) ?_)|refine z04 ?_|refine fk (fun _=>?_) fun _=>?_
   all_goals try omega
   refine z1d 26 1000 ?_
   exact z00 ih' rfl rfl
  | false =>
   rw[hv]at hfw ih'
   rw[zAy (by decide),List.append_nil]at ih'
   repeat' first|(apply z06;first|refine zlt (first:=[]) (cap:=[.ptr (1,3) 0]) (ps:=[S w]) hfw rfl rfl (hb _ _ _) (by decide) ?_|refine z3x hwd (hbX _ _ _) ?_)|refine z04 ?_|refine fk (fun _=>?_) fun _=>?_
   all_goals exact zD8
 ·obtain rfl:n=W.length:=by omega
  rw[z5e,←i2,y25]
  clear ih
  refine z0o 1000 rfl ?_
  repeat' first|refine z04 ?_|refine fk (fun _=>?_) fun _=>?_
  all_goals try omega
  all_goals exact z03 func59 _ z1h ⟨rfl,rfl⟩
theorem y6o(e:Rx)(hf:fit e)(s:ByteArray)(hs:s.size≤1000000)(e0 m:Nat):z0u prog 73 [S s,.ptr (e0,m) 0] [((e0,m),.box ((rxc e).map .d))] [] (B (mtS zkv e s)):=by
 refine z0v fun H hH=>?_
 have hX:=hH ((e0,m),.box ((rxc e).map .d)) (by simp)
 have hm:=y0m e hf s hs
 obtain⟨b,hb⟩:∃b,mtS zkv e s=b:=⟨_,rfl⟩
 rw[hb]at hm⊢
 refine z05 func73 (by kernel_rfl) rfl (by simp) ?_
 dsimp only[f73]
 repeat' first|(apply z1f;refine z07 (z6z (m:=(e0+1,m)) (b:=.box ((rxc e).map .d)) (zxv _ _) (zaq e) rfl) rfl (bkN hX) ?_)|(apply z06;refine z1o hm ?_)|refine z04 ?_|fail
 all_goals try omega
 all_goals exact z03 func73 _ z1h ⟨rfl,rfl⟩
def ycz(W:List ByteArray)(e:Rx)(f:ByteArray→Bool):PV:=if val e=0 then .tup [.d (inD (z5e (fun i=>f (wd W i)) W.length)),I .i64 0]else .tup [.d (inD []),I .i64 1]
theorem zka(W:List ByteArray)(C:List Nat)(rv:D)(hW:zrb W)(e:Rx)(hf:fit e)(e0:Nat):z0u prog 33 [.ptr (e0,X) 0,.d (Drx e)] [((e0,X),lexB W C rv)] [] (ycz W e (mtS zkv e)):=by
 refine z0v fun H hH=>?_
 have hX:=hH ((e0,X),lexB W C rv) (by simp)
 have hva:=z8l e hf
 have hfl:z0u prog 59 [.ptr (e0+1,X) 0,.fn (.func 73) [] [.ptr (0,3) 0]] [((0,3),.box ((rxc e).map .d)),((e0+1,X),lexB W C rv)] [] (.d (inD (z5e (fun i=>mtS zkv e (wd W i)) W.length))):=by
  refine z0v fun H hH=>?_
  have hA:=hH ((0,3),.box ((rxc e).map .d)) (by simp)
  have hX:=hH ((e0+1,X),lexB W C rv) (by simp)
  refine zxk W C rv hW.len 73 [((1,3),.box ((rxc e).map .d))] (mtS zkv e) (fun w hw=>y6o e hf w (by have:=hW.size w hw;omega) 1 3) (e0+1) H hX fun n tm hp=>by simp only[BkE,List.map_cons,List.map_nil,List.cons.injEq,and_true];exact hA
 rw[ycz]
 generalize z5e (fun i=>mtS zkv e (wd W i)) W.length=R at *
 have hbk:∀(n:Nat) (tm:List (Nat × PV)) (hp:Hp),Ab.look hp 3=some (.box ((rxc e).map .d))→BkE ⟨n,tm,hp,H⟩ [((0,3),.box ((rxc e).map .d)),((e0+1,X),lexB W C rv)]:=fun n tm hp h3=>by simp[BkE,z3h,push,h3,hX]
 refine z05 func33 (by kernel_rfl) rfl (by simp) ?_
 dsimp only[f33]
 by_cases h0:val e=0
 ·rw[h0]at hva
  rw[zAz h0]
  repeat' first|(apply z0r;refine z7c rfl rfl (by decide) ?_)|(apply z1f;refine z07 (z6z (m:=(0,3)) (b:=.box ((rxc e).map .d)) rfl (zaq e) rfl) rfl rfl ?_)|(apply z06;first|refine z8x hfl rfl (hbk _ _ _ rfl) (by decide) ?_|refine z1o hva ?_)|refine z04 ?_|fail
  all_goals try omega
  all_goals exact z03 func33 _ z1z ⟨rfl,rfl⟩
 ·rw[zAy h0]
  generalize val e=v at *
  repeat' first|(apply z1f;refine z07 (z6z (m:=(0,3)) (b:=.box ((rxc e).map .d)) rfl (zaq e) rfl) rfl rfl ?_)|(apply z06;refine z1o hva ?_)|refine z04 ?_|refine fk (fun _=>?_) fun _=>?_
  all_goals try omega
  all_goals refine zw4 4 rfl ?_
  all_goals exact z03 func33 _ z1z ⟨rfl,rfl⟩
end
theorem yao{v:List ByteArray}(h:zfn v):zrb (wds v) :=
 ⟨zax v,by have:=h.few;omega,fun w hw=>h.vld w ((z9c v w).1 hw),fun w hw=>by have:=h.size w ((z9c v w).1 hw);omega⟩
abbrev sT:ByteArray:=⟨#[97,46,42]⟩
abbrev sB:ByteArray:=⟨#[97,98]⟩
abbrev eT:Rx:=.mk 2 0 0 [] [.mk 1 0 0 [(97,97)] [],.mk 4 0 (-1) [] [.mk 1 0 0 [(0,1114111)] []]]
abbrev eB2:Rx:=.mk 2 0 0 [] [.mk 1 0 0 [(97,97)] [],.mk 1 0 0 [(98,98)] []]
abbrev cT:Au:=⟨[false,true,true],[[(97,97,1)],[(0,1114111,2)],[(0,1114111,2)]]⟩
abbrev v0:List ByteArray:=[⟨#[98]⟩,⟨#[65,98]⟩,⟨#[97,98]⟩,⟨#[97]⟩]
abbrev W0:List ByteArray:=[⟨#[65,98]⟩,⟨#[97]⟩,⟨#[97,98]⟩,⟨#[98]⟩]
theorem y3i:wds v0=W0:=by kernel_rfl
theorem ydp:zfn v0:=⟨by decide,by rw[y3i];decide,by decide,fun w hw=>by
 have h:v0.all zcs=true:=by kernel_rfl
 exact List.all_eq_true.1 h w hw⟩
theorem yd6:zrb W0:=by rw[←y3i];exact yao ydp
theorem ydn:fit eT:=by simp[fit,y2t]
theorem y8i:fit eB2:=by simp[fit,y2t]
theorem bdT:bd eT tb0=(⟨[[(97,97)],[(0,1114111)]],[2,2]⟩,⟨1,3,false⟩):=by rfl
theorem ybh:zrn eT=some cT:=by
 rw[zrn,zyg]
 simp only[y46,bdT]
 kernel_rfl
theorem ydq:vAu cT=0:=by kernel_rfl
theorem y2q:zqr cT:=⟨by decide,by decide,by decide⟩
theorem ye4:z5e (fun i=>cT.acc 0 (Go.Rx.z30 (wd W0 i))) W0.length=[1,2]:=by kernel_rfl
theorem ye3:z5e (fun i=>mtS zkv eB2 (wd W0 i)) W0.length=[0,2]:=by kernel_rfl
theorem yce:z3m cT.F cT.A=[true,true,true]:=by
 have f1:z57 cT.F cT.A 1:=.fin 1 rfl
 have f2:z57 cT.F cT.A 2:=.fin 2 rfl
 have f0:z57 cT.F cT.A 0:=.arc 0 [(97,97,1)] (97,97,1) rfl (by simp) f1
 rw[zrj (F:=cT.F) (A:=cT.A) fun q hq=>?_]
 ·rfl
 ·match q,hq with
  | 0,_=>exact f0
  | 1,_=>exact f1
  | 2,_=>exact f2
  | n+3,h=>exact absurd h (by simp[cT])
theorem ye9:yb9 W0 cT=3:=by
 rw[yb9,yce]
 kernel_rfl
theorem zzu(τ:Tab):z0u prog 47 [S sT] (zr3 τ 0) [] (.tup [.d (eX eT),I .i64 0,I .i64 0]):=by
 have hX0:(10:Nat)≠700:=by decide
 have hX1:(10:Nat)≠701:=by decide
 have hs:sT.size≤1000000:=by decide
 have h1:=zsj hX0 hX1 τ sT hs 0 1 _ (zla hX0 hX1 τ sT hs 0 97 (by decide) (by rfl) (by decide) (by rfl)) (by decide) 46 (by rfl) (by decide)
 have h2:=y9p hX0 hX1 τ sT hs 1 2 _ (y4y hX0 hX1 τ sT hs 1 (by decide) (by rfl)) (by decide) (by rfl) (by rfl)
 have h3:=y27 hX0 hX1 τ sT hs 0 1 3 _ _ (by decide) (by decide) h1 h2 (by decide) (by decide) (by decide) 97 46 (-1) (by rfl) (by decide) (by rfl) (by decide) (by rfl) (.inl rfl)
 have h4:=y97 hX0 hX1 τ sT hs 0 3 _ (by decide) h3 (by decide) (by rfl)
 exact zo6 τ sT (by decide) eT ydn rfl h4 (by rw[show unF 0 (rst sT 0)=[(97,0,1),(46,1,1),(42,2,1)]from rfl];decide) (by decide)
theorem zy2(τ:Tab):z0u prog 47 [S sB] (zr3 τ 0) [] (.tup [.d (eX eB2),I .i64 0,I .i64 0]):=by
 have hX0:(10:Nat)≠700:=by decide
 have hX1:(10:Nat)≠701:=by decide
 have hs:sB.size≤1000000:=by decide
 have h1:=zsj hX0 hX1 τ sB hs 0 1 _ (zla hX0 hX1 τ sB hs 0 97 (by decide) (by rfl) (by decide) (by rfl)) (by decide) 98 (by rfl) (by decide)
 have h2:=zsj hX0 hX1 τ sB hs 1 2 _ (zla hX0 hX1 τ sB hs 1 98 (by decide) (by rfl) (by decide) (by rfl)) (by decide) (-1) (by rfl) (by decide)
 have h3:=y27 hX0 hX1 τ sB hs 0 1 2 _ _ (by decide) (by decide) h1 h2 (by decide) (by decide) (by decide) 97 98 (-1) (by rfl) (by decide) (by rfl) (by decide) (by rfl) (.inl rfl)
 have h4:=y97 hX0 hX1 τ sB hs 0 2 _ (by decide) h3 (by decide) (by rfl)
 exact zo6 τ sB (by decide) eB2 y8i rfl h4 (by rw[show unF 0 (rst sB 0)=[(97,0,1),(98,1,1)]from rfl];decide) (by decide)
theorem y4a(τ:Tab):z0u prog 17 [] (zr3 τ 0) [] (B true):=by
 refine z0v fun H hH=>?_
 have hX0:=hH ((0,700),.glob 1 τ.o0) (by simp)
 have hX1:=hH ((0,701),.glob 2 τ.o1) (by simp)
 have p1:=zzu τ
 have p2:=zy2 τ
 have hb:=zmy v0 ydp
 rw[y3i]at hb
 have q1:=zvm eT ydn rfl
 rw[ybh]at q1
 have s1:=zca (X:=20) W0 (W0.map (z5v v0)) (zko W0) yd6 cT y2q 0
 rw[y0x,zAz ydq,ye4]at s1
 have s2:=zka (X:=20) W0 (W0.map (z5v v0)) (zko W0) yd6 eB2 y8i 0
 rw[ycz,zAz (show val eB2=0 from rfl),ye3]at s2
 have s3:=zx8 (X:=20) W0 (W0.map (z5v v0)) (zko W0) yd6 cT y2q 0
 rw[yb0,zAz ydq,ye9]at s3
 have t1:=zm5 [1,2] [1,2] (by decide)
 have t2:=zm5 [0,2] [0,2] (by decide)
 generalize zko W0=rv at *
 generalize W0.map (z5v v0)=C at *
 generalize (v0.map fun x=>loS W0 x)=N0 at *
 refine z05 func17 (by kernel_rfl) rfl (by simp) ?_
 dsimp only[f17]
 refine z4d 700 0 700 hX0 rfl rfl ?_
 refine z4d 701 0 701 (z08 hX1 (by simp)) rfl rfl ?_
 repeat' (first | (apply z06; (first | refine z6s s3 ?_| refine z6s s2 ?_| refine z6s s1 ?_| refine z6s p2 ?_| refine z6s p1 ?_| (refine zee rfl (hb _) (by decide) rfl (fun r H' h => ⟨_, _, _, h.1, h.2, rfl, rfl, ?_⟩)) /- z65 -/ | refine z1o q1 ?_| refine z1o t1 ?_| refine z1o t2 ?_)) | refine z04 ?_ | (apply z0r; (refine z07 (ycg rfl) rfl rfl ?_)))
 all_goals try (exfalso;first|omega|(simp at *;done))
 all_goals refine z7h (raw:=.glob 1 τ.o0) 700 0 700 (z08 (z1g _ (0,700) _) (by simp)) ?_
 all_goals refine z7h (raw:=.glob 2 τ.o1) 701 0 701 (z08 (z1g _ (0,701) _) (by simp)) ?_
 all_goals exact z03 func17 _ z1h ⟨rfl,zes hX0 hX1⟩
theorem zcn(f:Nat→Bool)(n:Nat):(z5e f n).length≤n:=by rw[z5e,zA4];exact zli f n
structure OkI(l:List Int):Prop where
 len:l.length≤4096
 asc:zw2 l
 rng:∀x∈l,0≤x∧x≤2147483647
theorem zsq(l:List Int)(h:OkI l):z0a prog 102 [.d (inD l)] (I .i64 0):=by
 refine z0q fun H=>?_
 refine z05 func102 (by kernel_rfl) rfl (by simp) ?_
 dsimp only[f102]
 have hl:=h.len
 repeat' first|refine z04 ?_|refine fk (fun _=>?_) fun _=>?_
 all_goals try omega
 refine z0f ?_
 refine z00 (z0s (fun q:Nat=>⟨35,[(0,.d (inD l)),(8,.d (inD l)),(9,I .i64 l.length),(10,I .i64 (q:Nat))],[],H⟩) (fun q=>q≤l.length) (fun q=>l.length-q) ?_ 0 (zAf _)) rfl rfl
 rintro i i1 ih
 by_cases hlt:i<l.length
 ·obtain⟨k,hk⟩:∃r,l[i]? =some r:=⟨_,zA0 hlt⟩
  obtain⟨r1,r2⟩:=h.rng k (zA2 hk)
  have ih':=ih (i+1) (by omega) (by omega)
  clear ih
  cases i with
  | zero =>
   repeat' first|(apply z01;refine z07 (z11 (ys:=l.map ic) rfl (idx hk)) rfl rfl ?_)|refine z04 ?_|refine fk (fun _=>?_) fun _=>?_
   all_goals exact zD8
  | succ j =>
   obtain⟨pr,j1⟩:∃r,l[j]? =some r:=⟨_,zA0 (by omega)⟩
   have j4:l[(((j+1:Nat):Int)-1).toNat]? =some pr:=by rw[show(((j+1:Nat):Int)-1).toNat=j by omega];exact j1
   have hlt2:pr<k:=by
    have:=zd4 h.asc (i:=j) (j:=j+1) (by omega) hlt
    rw[List.getD,List.getD,hk,j1]at this;exact this
   repeat' first|(apply z01;first|refine z07 (z11 (ys:=l.map ic) rfl (idx hk)) rfl rfl ?_| refine z07 (z11 (ys:=l.map ic) rfl (zam j4)) rfl rfl ?_)|refine z04 ?_|refine fk (fun _=>?_) fun _=>?_
   all_goals exact zD8
 ·obtain rfl:i=l.length:=by omega
  clear ih
  repeat' first|refine z04 ?_|refine fk (fun _=>?_) fun _=>?_
  all_goals try omega
  all_goals exact z03 func102 _ z1h ⟨rfl,rfl⟩
abbrev ilc(l:List Int):List D:=[inD l]
theorem zay(a b:List Int)(ha:OkI a)(hb:OkI b):z0a prog 75 [.d (.slice ([a,b].map ilc))] (I .i64 0):=by
 refine z0q fun H=>?_
 obtain⟨ls,hls⟩:∃ls,[a,b]=ls:=⟨_,rfl⟩
 have hl:ls.length=2:=by rw[←hls];rfl
 have hc:∀l∈ls,z0a prog 102 [.d (inD l)] (I .i64 0):=fun l h=>by
  rw[←hls]at h
  rcases zAc.1 h with rfl|h
  ·exact zsq _ ha
  ·rcases zAc.1 h with rfl|h
   ·exact zsq _ hb
   ·cases h
 rw[hls]
 clear hls
 refine z05 func75 (by kernel_rfl) rfl (by simp) ?_
 dsimp only[f75]
 repeat' first|refine z04 ?_|fail
 all_goals try omega
 refine z0f ?_
 refine z00 (z0s (fun q:Nat=>⟨18,[(6,.d (.slice (ls.map ilc))),(7,I .i64 ls.length),(8,I .i64 (q:Nat))],[],H⟩) (fun q=>q≤ls.length) (fun q=>ls.length-q) ?_ 0 (zAf _)) rfl rfl
 rintro i i1 ih
 by_cases hlt:i<ls.length
 ·obtain⟨k,hk⟩:∃r,ls[i]? =some r:=⟨_,zA0 hlt⟩
  have hck:=hc k (zA2 hk)
  have ih':=ih (i+1) (by omega) (by omega)
  clear ih
  repeat' first|(apply z01;refine z07 (z11 (ys:=ls.map ilc) rfl (idx hk)) rfl rfl ?_)|(apply z06;refine z1o hck ?_)|refine z04 ?_|refine fk (fun _=>?_) fun _=>?_
  all_goals exact zD8
 ·obtain rfl:i=ls.length:=by omega
  clear ih
  repeat' first|refine z04 ?_|refine fk (fun _=>?_) fun _=>?_
  all_goals try omega
  all_goals exact z03 func75 _ z1h ⟨rfl,rfl⟩
theorem y8f(l:List Int)(x:Int)(lo i:Nat)(hi:lo+i<l.length)(hl:l.length≤1000000):z0u prog 143 [.d (.lit (.int .i64 (i:Nat))),.ptr (1,2) 0,.ptr (1,6) 0,.ptr (1,3) 0] [((1,2),.box [.d (inD l)]),((1,6),.box [I .i64 (lo:Nat)]),((1,3),.box [I .i64 x])] [] (B (decide (x≤l.getD (lo+i) 0))):=by
 refine z0v fun H hH=>?_
 have hA:=hH ((1,2),.box [.d (inD l)]) (by simp)
 have hL:=hH ((1,6),.box [I .i64 (lo:Nat)]) (by simp)
 have hB:=hH ((1,3),.box [I .i64 x]) (by simp)
 obtain⟨k,hk⟩:∃r,l[lo+i]? =some r:=⟨_,zA0 hi⟩
 have hw':l[(((lo:Nat):Int)+((i:Nat):Int)).toNat]? =some k:=by rw[show(((lo:Nat):Int)+((i:Nat):Int)).toNat=lo+i by omega];exact hk
 have e:l.getD (lo+i) 0=k:=by rw[List.getD,hk];rfl
 rw[e]
 refine z05 func143 (by kernel_rfl) rfl (by simp) ?_
 dsimp only[f143]
 repeat' first|(apply z0b;first|refine z5c hL ?_| refine z5c hB ?_| refine z5c hA ?_)|(apply z02;refine z0c (z11 (ys:=l.map ic) rfl (zam hw')) rfl rfl ?_)|refine z04 ?_|fail
 all_goals try omega
 all_goals ((repeat rw[z1v]);first|exact z03 func143 _ (z0h rfl rfl rfl rfl rfl rfl rfl) ⟨rfl,rfl⟩|exact z03 func143 _ z1z ⟨rfl,rfl⟩|exact z03 func143 _ z1h ⟨rfl,rfl⟩|exact z03 func143 _ z7k ⟨rfl,rfl⟩)
theorem y0k(l:List Int)(h:OkI l)(x:Int):z0a prog 103 [.d (inD l),I .i64 x] (I .i64 (z5u l x:Nat)):=by
 have hl:=h.len
 obtain⟨g1,g2,g3⟩:=zcm l x
 have hs2:∀lo n:Nat,lo+n≤l.length→lo≤z5u l x→z5u l x≤lo+n→z0u prog 67 [I .i64 (n:Nat),.fn (.func 143) [] [.ptr (0,2) 0,.ptr (0,6) 0,.ptr (0,3) 0]] [((0,2),.box [.d (inD l)]),((0,6),.box [I .i64 (lo:Nat)]),((0,3),.box [I .i64 x])] [] (I .i64 ((z5u l x-lo:Nat):Int)):=fun lo n h1 h2 h3=>by
  refine z0v fun H hH=>?_
  have hA:=hH ((0,2),.box [.d (inD l)]) (by simp)
  have hL:=hH ((0,6),.box [I .i64 (lo:Nat)]) (by simp)
  have hB:=hH ((0,3),.box [I .i64 x]) (by simp)
  have hfr:zig (fun k=>decide (x≤l.getD (lo+k) 0)) n=z5u l x-lo:=zlx (by omega) (fun i hi=>by
   have:=g2 (lo+i) (by omega)
   simp only[zA5];omega) (fun hh=>by
   have:=g3 (by omega)
   rw[show lo+(z5u l x-lo)=z5u l x by omega]
   simpa using this)
  rw[←hfr]
  refine zgy n (by omega) 143 [.ptr (0,2) 0,.ptr (0,6) 0,.ptr (0,3) 0] [((1,2),.box [.d (inD l)]),((1,6),.box [I .i64 (lo:Nat)]),((1,3),.box [I .i64 x])] (fun k=>decide (x≤l.getD (lo+k) 0)) (fun i j hij hj hi=>?_) H (fun i hi=>y8f l x lo i (by omega) (by omega)) fun n tm hp=>by simp[BkE,z3h,push,hA,hL,hB]
  simp only[zA3]at hi⊢
  rcases Nat.lt_or_ge i j with k|k
  ·have:=zd4 h.asc (i:=lo+i) (j:=lo+j) (by omega) (by omega);omega
  ·rw[show j=i by omega];exact hi
 refine z0q fun H=>?_
 refine z05 func103 (by kernel_rfl) rfl (by simp) ?_
 dsimp only[f103]
 repeat' first|(apply z1n;refine z09 z3s ?_)|refine z04 ?_|fail
 all_goals try omega
 refine z0f ?_
 refine z00 (z0s (fun e:Nat=>⟨36,[(2,.ptr (0,2) 0),(3,.ptr (0,3) 0),(5,I .i64 (e:Nat))],[(2,.box [.d (inD l)]),(3,.box [I .i64 x])],H⟩) (fun e=>1≤e∧e≤2*l.length+2∧e / 2≤z5u l x∧e / 2≤l.length) (fun e=>2*l.length+3-e) ?_ 1 ⟨zAj _,by omega,by omega,by omega⟩) rfl rfl
 rintro e ⟨i1,i2,i3,i4⟩ ih
 have hdiv:((e:Nat):Int) / 2=((e / 2:Nat):Int):=by omega
 by_cases hc:e≤l.length
 ·obtain⟨k,hk⟩:∃r,l[e-1]? =some r:=⟨_,zA0 (by omega)⟩
  have hk':l[(((e:Nat):Int)-1).toNat]? =some k:=by rw[show(((e:Nat):Int)-1).toNat=e-1 by omega];exact hk
  have hkd:l.getD (e-1) 0=k:=by rw[List.getD,hk];rfl
  by_cases hx:k<x
  ·have hge:e≤z5u l x:=by
    rcases Nat.lt_or_ge (z5u l x) e with q|q
    ·have h5:=g3 (by omega)
     have:l.getD (z5u l x) 0≤l.getD (e-1) 0:=by
      rcases Nat.lt_or_ge (z5u l x) (e-1)with r|r
      ·have:=zd4 h.asc r (by omega);omega
      ·rw[show z5u l x=e-1 by omega];exact Int.le_refl _
     omega
    ·exact q
   have ih':=ih (e*2) ⟨by omega,by omega,by omega,by omega⟩ (by omega)
   rw[show((e*2:Nat):Int)=(e:Int)*2 by push_cast;rfl]at ih'
   clear ih hs2
   repeat' first|(apply z02;refine z0c (z11 (ys:=l.map ic) rfl (zam hk')) rfl rfl ?_)|refine z04 ?_|refine fk (fun _=>?_) (fun _=>?_)|(refine z13 (fun hg=>?_) (fun hg=>?_)<;> simp only[hg] <;> (try simp only[zA3,zA5,zA6,zA8]at hg))
   all_goals exact zD8
  ·have hle:z5u l x≤e-1:=by
    rcases Nat.lt_or_ge (e-1) (z5u l x)with q|q
    ·have:=g2 (e-1) q;omega
    ·exact q
   exact zD5
 ·have hle:z5u l x≤l.length:=g1
  exact zD5
theorem OkI.drop{l:List Int}(h:OkI l)(n:Nat):OkI (l.drop n) :=
 ⟨by rw[List.length_drop];have:=h.len;omega,y0h h.asc n,fun x hx=>h.rng x (List.mem_of_mem_drop hx)⟩
theorem zvz(a b:List Int)(ha:OkI a)(hb:OkI b):z0a prog 76 [.d (inD a),.d (inD b)] (.tup [.d (inD (a.filter (· ∈b))),.d (inD (a.filter (· ∉b)))]):=by
 refine z0q fun H=>?_
 refine z05 func76 (by kernel_rfl) rfl (by simp) ?_
 dsimp only[f76]
 have hal:=ha.len
 repeat' first|refine z04 ?_|fail
 all_goals try omega
 refine z1j 4 1000 3 1 rfl rfl rfl ?_
 refine z1j 5 1001 3 1 rfl rfl rfl ?_
 refine z0f ?_
 refine z00 (z0s (fun z:Nat × Nat × List Int × List Int=>⟨40,[(1,.d (inD (b.drop z.2.1))),(4,.ref (0,1000)),(5,.ref (0,1001)),(8,.d (inD a)),(9,I .i64 a.length),(10,I .i64 (z.1:Nat))],[(1000,.row 3 1 (z.2.2.1.map ic)),(1001,.row 3 1 (z.2.2.2.map ic))],H⟩)
  (fun z=>z.1≤a.length∧(∀x∈a.drop z.1,x∈b↔x∈b.drop z.2.1)∧z.2.2.1=(a.take z.1).filter (· ∈b)∧z.2.2.2=(a.take z.1).filter (· ∉b)) (fun z=>a.length-z.1) ?_ (0,0,[],[]) ⟨zAf _,fun x _=>Iff.rfl,rfl,rfl⟩) rfl rfl
 rintro⟨i,n,p,q⟩ ⟨i1,i2,i3,i4⟩ ih
 simp only at i1 i2 i3 i4 ih⊢
 have hpl:p.length≤4096:=by rw[i3];have:=List.length_filter_le (fun x=>decide (x∈b)) (a.take i);rw[zAm]at this;omega
 have hql:q.length≤4096:=by rw[i4];have:=List.length_filter_le (fun x=>decide (x∉b)) (a.take i);rw[zAm]at this;omega
 by_cases hlt:i<a.length
 ·obtain⟨x,hx⟩:∃r,a[i]? =some r:=⟨_,zA0 hlt⟩
  have hbd:=hb.drop n
  have hgs:=y0k (b.drop n) hbd x
  have hgl:=(zcm (b.drop n) x).1
  have hgm:=y6j hbd.asc x
  have hdm:=fun y (hy:x≤y)=>zyd (l:=b.drop n) (x:=x) hy
  have hxin:=i2 x (by rw[drop_cons hx];exact List.mem_cons_self ..)
  have htk:∀f:Int→Bool,(a.take (i+1)).filter f=(a.take i).filter f++if f x=true then [x]else []:=fun f=>by
   rw[List.take_add_one,hx,List.filter_append]
   by_cases g:f x=true <;> simp[g]
  have i2':∀y∈a.drop (i+1),y∈b↔y∈b.drop (n+z5u (b.drop n) x):=fun y hy=>by
   have h1:y∈a.drop i:=by rw[drop_cons hx];exact List.mem_cons_of_mem _ hy
   rw[i2 y h1,←List.drop_drop]
   refine hdm y ?_
   obtain⟨k,hk⟩:=zAw hy
   rw[List.getElem?_drop]at hk
   have hkl:=(zA1.1 hk).1
   have:=zd4 ha.asc (i:=i) (j:=i+1+k) (by omega) hkl
   rw[List.getD,List.getD,hx,hk]at this
   simp at this;omega
  have hdl:(b.drop n).length≤4096:=hbd.len
  rw[←hxin]at hgm
  have ih':=fun p2 q2 h=>ih (i+1,n+z5u (b.drop n) x,p2,q2) ⟨by simp only;omega,i2',h⟩ (by simp only;omega)
  simp only[htk]at ih'
  rw[←i3,←i4]at ih'
  simp only[←List.drop_drop]at ih'
  clear ih i2 i2' htk hdm hxin
  generalize hd:b.drop n=d at *
  generalize hg:z5u d x=g at *
  have hsl:d.drop g=d.drop ((g:Nat):Int).toNat:=by rw[zA9]
  have hdl2:(d.drop ((g:Nat):Int).toNat).length=d.length-g:=by rw[zA9,List.length_drop]
  have hdl3:((d.drop ((g:Nat):Int).toNat).map ic).length=d.length-g:=by rw[zA4,hdl2]
  rw[hsl]at ih'
  by_cases hm:x∈b
  ·have hgm':=hgm.1 hm
   have hdx:(d.drop ((g:Nat):Int).toNat)[(0:Int).toNat]? =some x:=by
    rw[show((0:Int)).toNat=0 from rfl,zA9,List.getElem?_drop,Nat.add_zero,zA0 hgm'.1]
    have:=hgm'.2
    rw[List.getD,zA0 hgm'.1]at this
    exact congrArg some this
   have ih2:=ih' (p++[x]) q ⟨by simp[hm],by simp[hm]⟩
   clear ih'
   repeat' first|(apply z01;first|refine z07 (z11 (ys:=a.map ic) rfl (idx hx)) rfl rfl ?_| refine z07 (z11 (ys:=(d.drop ((g:Nat):Int).toNat).map ic) rfl (zam hdx)) rfl rfl ?_)|(apply z98;refine z07 (z3z (q:=d) (g:=ic) rfl (by omega) (by omega) fun _=>rfl) rfl rfl ?_)|(apply z14;refine z2w (g:=ic) (q:=p) x rfl ?_)|(apply z06;refine z1o hgs ?_)|refine z04 ?_|refine fk (fun _=>?_) fun _=>?_
   all_goals try omega
   all_goals refine z1d 32 1000 ?_
   all_goals exact z00 ih2 rfl rfl
  ·have ih2:=ih' p (q++[x]) ⟨by simp[hm],by simp[hm]⟩
   clear ih'
   by_cases hgd:g<d.length
   ·obtain⟨y,hy⟩:∃y,d[g]? =some y:=⟨_,zA0 hgd⟩
    have hdx:(d.drop ((g:Nat):Int).toNat)[(0:Int).toNat]? =some y:=by
     rw[show((0:Int)).toNat=0 from rfl,zA9,List.getElem?_drop,Nat.add_zero,hy]
    have hne:¬y=x:=fun e=>hm (hgm.2 ⟨hgd,by rw[List.getD,hy];exact e⟩)
    repeat' first|(apply z01;first|refine z07 (z11 (ys:=a.map ic) rfl (idx hx)) rfl rfl ?_| refine z07 (z11 (ys:=(d.drop ((g:Nat):Int).toNat).map ic) rfl (zam hdx)) rfl rfl ?_)|(apply z98;refine z07 (z3z (q:=d) (g:=ic) rfl (by omega) (by omega) fun _=>rfl) rfl rfl ?_)|(apply z14;refine z2w (g:=ic) (q:=q) x rfl ?_)|(apply z06;refine z1o hgs ?_)|refine z04 ?_|refine fk (fun _=>?_) fun _=>?_
    all_goals exact zD143
   ·repeat' (first|(apply z01;refine z07 (z11 (ys:=a.map ic) rfl (idx hx)) rfl rfl ?_)|(apply z98;refine z07 (z3z (q:=d) (g:=ic) rfl (by omega) (by omega) fun _=>rfl) rfl rfl ?_)|(apply z14;refine z2w (g:=ic) (q:=q) x rfl ?_)|(apply z06;refine z1o hgs ?_)|refine z04 ?_|refine fk (fun _=>?_) fun _=>?_)
    all_goals exact zD143
 ·obtain rfl:i=a.length:=by omega
  rw[List.take_length]at i3 i4
  rw[←i3,←i4]
  clear ih
  refine z0o 1000 rfl ?_
  refine z0o 1001 rfl ?_
  repeat' first|refine z04 ?_|refine fk (fun _=>?_) fun _=>?_
  all_goals try omega
  all_goals exact z03 func76 _ z1z ⟨rfl,rfl⟩
theorem zfc(a b:List Int)(ha:OkI a)(hb:OkI b):z0a prog 34 [.d (inD a),.d (inD b)] (.tup [.d (inD (a.filter (· ∉b))),I .i64 0]):=by
 refine z0q fun H=>?_
 have h1:=zay a b ha hb
 have h2:=zvz a b ha hb
 generalize a.filter (· ∈b)=p at *
 generalize a.filter (· ∉b)=q at *
 refine z05 func34 (by kernel_rfl) rfl (by simp) ?_
 dsimp only[f34]
 repeat' first|(apply z06;first|refine z1o h1 ?_| refine z1o h2 ?_)|refine z04 ?_|fail
 all_goals try omega
 all_goals exact z03 func34 _ z1z ⟨rfl,rfl⟩
theorem zlc(a b:List Int)(ha:OkI a)(hb:OkI b):z0a prog 38 [.d (inD a),.d (inD b)] (.tup [.d (inD (a.filter (· ∈b))),I .i64 0]):=by
 refine z0q fun H=>?_
 have h1:=zay a b ha hb
 have h2:=zvz a b ha hb
 generalize a.filter (· ∈b)=p at *
 generalize a.filter (· ∉b)=q at *
 refine z05 func38 (by kernel_rfl) rfl (by simp) ?_
 dsimp only[f38]
 repeat' first|(apply z06;first|refine z1o h1 ?_| refine z1o h2 ?_)|refine z04 ?_|fail
 all_goals try omega
 all_goals exact z03 func38 _ z1z ⟨rfl,rfl⟩
theorem za8(s:ByteArray):vld (Go.Rx.z30 s)=true:=by
 rw[vld,Go.Rx.z30,List.all_map,List.all_eq_true]
 intro u hu
 have:=z3b.1 (zgt s _ 0 (zAj _) u hu)
 simp only[Function.comp,zA7,zA3]
 omega
theorem zmp(f:Nat→Bool){n:Nat}(hn:n≤4096):OkI (z5e f n) :=
 ⟨by have:=zcn f n;omega,z6y f n,fun x hx=>by
   obtain⟨i,hi,rfl⟩:=List.mem_map.1 hx
   have:=(zgs.1 hi).1
   omega⟩
theorem zg6{f g:Nat→Bool}{n:Nat}(h:∀i,i<n→f i=g i):z5e f n=z5e g n:=by rw[z5e,z5e,zro h]
theorem zny(a b:List Int)(hl:a.length+b.length≤1000000):z0a prog 104 [.d (inD a),.d (inD b)] (.d (inD (mrg a b))):=by
 refine z0q fun H=>?_
 refine z05 func104 (by kernel_rfl) rfl (by simp) ?_
 dsimp only[f104]
 obtain⟨R,hR⟩:∃R,mrg a b=R:=⟨_,rfl⟩
 rw[hR]
 repeat' first|refine z04 ?_|fail
 all_goals try omega
 refine z1j 5 1000 3 1 rfl rfl rfl ?_
 refine z0f ?_
 refine z00 (z0s (fun z:List Int × List Int × List Int=>⟨61,[(0,.d (inD z.2.1)),(1,.d (inD z.2.2)),(5,.ref (0,1000))],[(1000,.row 3 1 (z.1.map ic))],H⟩) (fun z=>z.1.length+z.2.1.length+z.2.2.length≤1000000∧z.1++mrg z.2.1 z.2.2=R) (fun z=>z.2.1.length+z.2.2.length) ?_ ([],a,b) ⟨by simpa using hl,hR⟩) rfl rfl
 rintro⟨o,p,q⟩ ⟨i1,i2⟩ ih
 simp only at i1 i2 ih⊢
 cases p with
 | nil =>
  rw[zwd]at i2
  clear ih
  have h5:o++[]=o:=List.append_nil o
  repeat' first|(apply z14;first|refine zfi (g:=ic) (q:=o) (r:=([]:List Int)) rfl rfl rfl rfl rfl (fun _=>rfl) rfl rfl (by decide) (by simp;omega) ?_|refine zfi (g:=ic) (q:=o++[]) (r:=q) rfl rfl rfl rfl rfl (fun _=>rfl) rfl rfl (by decide) (by simp;omega) ?_)|refine z04 ?_|fail
  all_goals exact zD108
 | cons x p =>
  cases q with
  | nil =>
   rw[zx1]at i2
   clear ih
   have h5:o++(x::p)++[]=o++(x::p):=List.append_nil _
   have hpl:(x::p).length=p.length+1:=zAk
   rw[hpl]at i1
   repeat' first|(apply z14;first|refine zfi (g:=ic) (q:=o) (r:=x::p) rfl rfl rfl rfl rfl (fun _=>rfl) rfl rfl (by decide) (by simp;omega) ?_|refine zfi (g:=ic) (q:=o++(x::p)) (r:=([]:List Int)) rfl rfl rfl rfl rfl (fun _=>rfl) rfl rfl (by decide) (by simp;omega) ?_)|refine z04 ?_|refine fk (fun _=>?_) fun _=>?_
   all_goals exact zD108
  | cons y q =>
   rw[mrg]at i2
   simp only[zAk]at i1 ih
   have hpl:(x::p).length=p.length+1:=zAk
   have hql:(y::q).length=q.length+1:=zAk
   by_cases h1:x<y
   ·rw[zAz h1]at i2
    have ih':=ih (o++[x],p,y::q) ⟨by simp only[zAa,zAk,List.length_nil];omega,by simp only;rw[zAl];exact i2⟩ (by simp only[zAk];omega)
    simp only at ih'
    clear ih
    repeat' first|(apply z02;first|refine z0c (z1u (ys:=(x::p).map ic) rfl (by decide) rfl rfl) rfl rfl ?_| refine z0c (z1u (ys:=(y::q).map ic) rfl (by decide) rfl rfl) rfl rfl ?_)|(apply z3p;refine z0c (z3z (q:=x::p) (g:=ic) rfl (by omega) (by omega) fun _=>rfl) rfl rfl ?_)|(apply z4i;refine z4y (g:=ic) (q:=o) (by first|exact rfl|exact⟨_,rfl,rfl,rfl⟩) rfl rfl x rfl rfl rfl rfl rfl rfl rfl (by decide) (by omega) ?_)|refine z04 ?_|refine fk (fun _=>?_) fun _=>?_
    all_goals try (exfalso;first|omega|(simp at *;done))
    all_goals refine z1d 37 1000 ?_
    all_goals exact z00 ih' rfl rfl
   ·rw[zAy h1]at i2
    by_cases h2:y<x
    ·rw[zAz h2]at i2
     have ih':=ih (o++[y],x::p,q) ⟨by simp only[zAa,zAk,List.length_nil];omega,by simp only;rw[zAl];exact i2⟩ (by simp only[zAk];omega)
     simp only at ih'
     clear ih
     repeat' first|(apply z02;first|refine z0c (z1u (ys:=(x::p).map ic) rfl (by decide) rfl rfl) rfl rfl ?_| refine z0c (z1u (ys:=(y::q).map ic) rfl (by decide) rfl rfl) rfl rfl ?_)|(apply z3p;refine z0c (z3z (q:=y::q) (g:=ic) rfl (by omega) (by omega) fun _=>rfl) rfl rfl ?_)|(apply z4i;refine z4y (g:=ic) (q:=o) (by first|exact rfl|exact⟨_,rfl,rfl,rfl⟩) rfl rfl y rfl rfl rfl rfl rfl rfl rfl (by decide) (by omega) ?_)|refine z04 ?_|refine fk (fun _=>?_) fun _=>?_
     all_goals try (exfalso;first|omega|(simp at *;done))
     all_goals refine z1d 53 1000 ?_
     all_goals exact z00 ih' rfl rfl
    ·rw[zAy h2]at i2
     have ih':=ih (o++[x],p,q) ⟨by simp only[zAa,zAk,List.length_nil];omega,by simp only;rw[zAl];exact i2⟩ (by simp only[zAk];omega)
     simp only at ih'
     clear ih
     repeat' first|(apply z02;first|refine z0c (z1u (ys:=(x::p).map ic) rfl (by decide) rfl rfl) rfl rfl ?_| refine z0c (z1u (ys:=(y::q).map ic) rfl (by decide) rfl rfl) rfl rfl ?_)|(apply z3p;first|refine z0c (z3z (q:=x::p) (g:=ic) rfl (by omega) (by omega) fun _=>rfl) rfl rfl ?_| refine z0c (z3z (q:=y::q) (g:=ic) rfl (by omega) (by omega) fun _=>rfl) rfl rfl ?_)|(apply z4i;refine z4y (g:=ic) (q:=o) (by first|exact rfl|exact⟨_,rfl,rfl,rfl⟩) rfl rfl x rfl rfl rfl rfl rfl rfl rfl (by decide) (by omega) ?_)|refine z04 ?_|refine fk (fun _=>?_) fun _=>?_
     all_goals try (exfalso;first|omega|(simp at *;done))
     all_goals refine z1d 19 1000 ?_
     all_goals exact z00 ih' rfl rfl
theorem zlg(b:List Int)(hl:b.length≤1000000):z0a prog 104 [.d (inD []),.d (inD b)] (.d (inD b)):=by
 have:=zny [] b (by simpa using hl)
 rwa [zwd]at this
theorem y09(a b:List Int)(ha:OkI a)(hb:OkI b)(hl:a.length+b.length≤4096):z0a prog 77 [.d (.slice ([a,b].map ilc))] (.tup [.d (inD (mrg a b)),I .i64 0]):=by
 refine z0q fun H=>?_
 have h1:=zay a b ha hb
 have h2:=zlg a (by omega)
 have h3:=zny a b (by omega)
 have h4:=zhw _ a b (zAj _)
 refine z05 func77 (by kernel_rfl) rfl (by simp) ?_
 dsimp only[f77]
 generalize hR:mrg a b=R at *
 repeat' first|(apply z06;refine z1o h1 ?_)|refine z04 ?_|fail
 all_goals try omega
 refine zw4 5 rfl ?_
 refine z0f ?_
 refine z00 (z0s (fun z:Nat × List Int=>⟨27,[(5,.d (inD z.2)),(13,.d (.slice ([a,b].map ilc))),(14,I .i64 2),(15,I .i64 (z.1:Nat))],[],H⟩) (fun z=>(z.1=0∧z.2=[])∨(z.1=1∧z.2=a)∨(z.1=2∧z.2=R)) (fun z=>2-z.1) ?_ (0,[]) (.inl ⟨rfl,rfl⟩)) rfl rfl
 rintro⟨i,o⟩ hi ih
 simp only at hi ih⊢
 rcases hi with⟨rfl,rfl⟩|⟨rfl,rfl⟩|⟨rfl,rfl⟩
 ·have ih':=ih (1,a) (.inr (.inl ⟨rfl,rfl⟩)) (by simp only;omega)
  simp only at ih'
  clear ih
  repeat' first|(apply z01;refine z07 (z1u (ys:=[a,b].map ilc) rfl (by decide) rfl rfl) rfl rfl ?_)|(apply z06;refine z1o h2 ?_)|refine z04 ?_|refine fk (fun _=>?_) fun _=>?_
  all_goals exact zD8
 ·have ih':=ih (2,R) (.inr (.inr ⟨rfl,rfl⟩)) (by simp only;omega)
  simp only at ih'
  clear ih
  repeat' first|(apply z01;refine z07 (z1u (ys:=[o,b].map ilc) rfl (by decide) rfl rfl) rfl rfl ?_)|(apply z06;refine z1o h3 ?_)|refine z04 ?_|refine fk (fun _=>?_) fun _=>?_
  all_goals exact zD8
 ·clear ih
  repeat' first|refine z04 ?_|fail
  all_goals try omega
  all_goals exact z03 func77 _ z1z ⟨rfl,rfl⟩
theorem zt4(a b:List Int)(ha:OkI a)(hb:OkI b)(hl:a.length+b.length≤4096):z0a prog 39 [.d (inD a),.d (inD b)] (.tup [.d (inD (mrg a b)),I .i64 0]):=by
 refine z0q fun H=>?_
 have h1:=y09 a b ha hb hl
 generalize mrg a b=R at *
 refine z05 func39 (by kernel_rfl) rfl (by simp) ?_
 dsimp only[f39]
 repeat' first|(apply z06;refine z1o h1 ?_)|refine z04 ?_|fail
 all_goals try omega
 all_goals exact z03 func39 _ z1z ⟨rfl,rfl⟩
theorem z5b{f:Nat→Bool}{n:Nat}{x:Int}:x∈z5e f n↔∃i:Nat,x=i∧i<n∧f i=true:=by
 rw[z5e,List.mem_map]
 constructor
 ·rintro⟨i,hi,rfl⟩;exact⟨i,rfl,zgs.1 hi⟩
 ·rintro⟨i,rfl,h⟩;exact⟨i,zgs.2 h,rfl⟩
theorem y5z{f g:Nat→Bool}{n:Nat}:(z5e f n).filter (· ∈z5e g n)=z5e (fun i=>f i&&g i) n:=by
 refine zi1 ((z6y f n).sublist (List.filter_sublist ..)) (z6y _ n) fun x=>?_
 rw[List.mem_filter,zA3]
 change x∈z5e f n∧_↔x∈z5e _ n
 rw[z5b,z5b,z5b]
 constructor
 ·rintro⟨⟨i,rfl,h1,h2⟩,j,e,_,h3⟩
  have:i=j:=by omega
  subst this
  exact⟨i,rfl,h1,by rw[h2,h3];rfl⟩
 ·rintro⟨i,rfl,h1,h2⟩
  rw[zA7]at h2
  exact⟨⟨i,rfl,h1,h2.1⟩,i,rfl,h1,h2.2⟩
theorem y0v{f g:Nat→Bool}{n:Nat}:(z5e f n).filter (· ∉z5e g n)=z5e (fun i=>f i&&!g i) n:=by
 refine zi1 ((z6y f n).sublist (List.filter_sublist ..)) (z6y _ n) fun x=>?_
 rw[List.mem_filter,zA3]
 change x∈z5e f n∧_↔x∈z5e _ n
 rw[z5b,z5b,z5b]
 constructor
 ·rintro⟨⟨i,rfl,h1,h2⟩,h3⟩
  refine⟨i,rfl,h1,?_⟩
  cases hg:g i with
  | false=>rw[h2];rfl
  | true=>exact absurd ⟨i,rfl,h1,hg⟩ h3
 ·rintro⟨i,rfl,h1,h2⟩
  rw[zA7,zA6]at h2
  refine⟨⟨i,rfl,h1,h2.1⟩,?_⟩
  rintro⟨j,e,_,h3⟩
  have:i=j:=by omega
  subst this
  rw[h2.2]at h3;cases h3
theorem y55{f g:Nat→Bool}{n:Nat}:mrg (z5e f n) (z5e g n)=z5e (fun i=>f i||g i) n:=by
 refine zi1 (zgu _ _ _ (zAj _) (z6y f n) (z6y g n)) (z6y _ n) fun x=>?_
 rw[z8y _ _ _ (zAj _)]
 change _↔x∈z5e _ n
 rw[z5b,z5b,z5b]
 constructor
 ·rintro(⟨i,rfl,h1,h2⟩|⟨i,rfl,h1,h2⟩)
  ·exact⟨i,rfl,h1,by rw[h2];rfl⟩
  ·exact⟨i,rfl,h1,by rw[h2,Bool.or_true]⟩
 ·rintro⟨i,rfl,h1,h2⟩
  rw[zAu]at h2
  rcases h2 with h2|h2
  ·exact .inl ⟨i,rfl,h1,h2⟩
  ·exact .inr ⟨i,rfl,h1,h2⟩
theorem y0t(n:Nat):(List.range n).map (fun(i:Nat)=>(i:Int))=z5e (fun _=>true) n:=by
 rw[z5e,sel,List.filter_eq_self.2 fun _ _=>rfl]
def zk8(f g:Nat→Bool):Nat→Nat→Bool
 | 0=>fun i=>!f i
 | 1=>fun i=>f i&&g i
 | 2=>fun i=>f i||g i
 | _=>fun i=>f i&&!g i
theorem y9h{a b:Au}(ha:Okn 6 a)(hb:Okn 6 b):∃cc:Nat→Au,z0a prog 40 [.d (auD a)] (.tup [.d (auD (cc 0)),I .i64 0]) ∧
 (∀i:Nat,0<i→i<4→z0a prog 41 [.d (auD a),.d (auD b),I .i64 (i:Nat)] (.tup [.d (auD (cc i)),I .i64 0])) ∧
 (∀i:Nat,i<4→zqr (cc i)∧vAu (cc i)=0) ∧
 ∀(W:List ByteArray) (i:Nat),i<4→z5e (fun n=>(cc i).acc 0 (Go.Rx.z30 (wd W n))) W.length=z5e (zk8 (fun n=>a.acc 0 (Go.Rx.z30 (wd W n))) (fun n=>b.acc 0 (Go.Rx.z30 (wd W n))) i) W.length:=by
 obtain⟨c0,p0,_,w0,l0,h0⟩:=zsr ha (by decide)
 obtain⟨c1,p1,_,w1,l1,h1⟩:=zhc ha hb (by decide) 1 (by decide) (by decide)
 obtain⟨c2,p2,_,w2,l2,h2⟩:=zhc ha hb (by decide) 2 (by decide) (by decide)
 obtain⟨c3,p3,_,w3,l3,h3⟩:=zhc ha hb (by decide) 3 (by decide) (by decide)
 have v0:=znz w0 (by omega)
 have v1:=znz w1 (by omega)
 have v2:=znz w2 (by omega)
 have v3:=znz w3 (by omega)
 refine⟨fun i=>match i with|0=>c0|1=>c1|2=>c2|_=>c3,p0,fun i i1 i2=>?_,fun i i2=>?_,fun W i i2=>?_⟩
 ·match i,i1,i2 with
  | 1,_,_=>exact p1
  | 2,_,_=>exact p2
  | 3,_,_=>exact p3
 ·match i,i2 with
  | 0,_=>exact⟨zhk v0,v0⟩
  | 1,_=>exact⟨zhk v1,v1⟩
  | 2,_=>exact⟨zhk v2,v2⟩
  | 3,_=>exact⟨zhk v3,v3⟩
 ·refine zg6 fun n _=>?_
  match i,i2 with
  | 0,_=>simp only[zk8];rw[h0,za8,Bool.true_and]
  | 1,_=>simp only[zk8];rw[h1,za8,Bool.true_and,z7w,zAz rfl]
  | 2,_=>simp only[zk8];rw[h2,za8,Bool.true_and,z7w,zAy (by decide),zAz rfl]
  | 3,_=>simp only[zk8];rw[h3,za8,Bool.true_and,z7w,zAy (by decide),zAy (by decide),zAz rfl]
abbrev zqz(n i:Nat):List Int:=(List.range i).map (fun(i:Nat)=>(i:Int))++List.replicate (n-i) 0
theorem zzq{n i:Nat}(h:i<n):(zqz n i)[((i:Nat):Int).toNat]? =some 0:=by
 rw[zA9,zqz,zAg (by simp),zA4,List.length_range,Nat.sub_self,List.getElem?_replicate,zAz (by omega)]
theorem zzn{n i:Nat}(h:i<n):(zqz n i).set ((i:Nat):Int).toNat (i:Int)=zqz n (i+1):=by
 rw[zA9,zqz,List.set_append_right _ _ (by simp),zA4,List.length_range,Nat.sub_self,show n-i=(n-(i+1))+1 by omega,List.replicate_succ,List.set_cons_zero,zqz,List.range_succ,List.map_append,zAl];rfl
theorem znm(n i:Nat)(h:i≤n):(zqz n i).length=n:=by simp;omega
theorem zr1(τ:Tab)(v:List ByteArray)(hv:v.length≤9223372036854775807)(a b:Au)(ha:zqr a)(hb0:zqr b):z0u prog 10 [.d (.slice (v.map stc)),.d (auD a),.d (auD b)] (zr3 τ 0) [] (B true):=by
 refine z0v fun H hH=>?_
 have hX0:=hH ((0,700),.glob 1 τ.o0) (by simp)
 have hX1:=hH ((0,701),.glob 2 τ.o1) (by simp)
 have haw:=y4a τ
 have hlo:=y8h v hv
 have hva:=zb0 a ha
 have hvb:=zb0 b hb0
 refine z05 func10 (by kernel_rfl) rfl (by simp) ?_
 dsimp only[f10]
 refine z4d 700 0 700 hX0 rfl rfl ?_
 refine z4d 701 0 701 (z08 hX1 (by simp)) rfl rfl ?_
 have fa1:=ha.1
 have fb1:=hb0.1
 by_cases hl:zzf v=true∨6<a.F.length∨6<b.F.length∨vAu a≠0∨vAu b≠0
 ·generalize zzf v=b1 at *
  generalize vAu a=x at *
  generalize vAu b=y at *
  obtain⟨F,A⟩:=a
  obtain⟨F2,A2⟩:=b
  simp only at fa1 fb1 hl
  cases b1
  all_goals repeat' first|(apply z06;first|refine z1o hlo ?_| refine z1o hva ?_| refine z1o hvb ?_)|(apply z1n;refine z09 z3s ?_)|refine z04 ?_|refine fk (fun _=>?_) fun _=>?_
  all_goals try (exfalso;dsimp only at *;first|omega|(simp at *;done)|(simp at *;omega))
  all_goals exact zD82
 have hl1:zzf v=false:=by
  cases e:zzf v with
  | false=>rfl
  | true=>exact absurd (.inl e) hl
 have hl2:a.F.length≤6:=by
  rcases Nat.lt_or_ge 6 a.F.length with g|g
  ·exact absurd (.inr (.inl g)) hl
  ·exact g
 have hl3:b.F.length≤6:=by
  rcases Nat.lt_or_ge 6 b.F.length with g|g
  ·exact absurd (.inr (.inr (.inl g))) hl
  ·exact g
 have hl4:vAu a=0:=by
  by_cases g:vAu a=0
  ·exact g
  ·exact absurd (.inr (.inr (.inr (.inl g)))) hl
 have hl5:vAu b=0:=by
  by_cases g:vAu b=0
  ·exact g
  ·exact absurd (.inr (.inr (.inr (.inr g)))) hl
 clear hl
 have hok:=(y9i hl1).2
 have he:zic v=0:=by
  simp only[zzf,Bool.or_eq_false_iff,zA5,zA8,zA3]at hl1
  exact hl1.2
 have hb:=y54 v hok he
 have hW:=yao hok
 have hWl:=hW.len
 have hWf:=hok.few
 rw[zrd]at hb
 rw[hl1]at hlo
 rw[hl4]at hva
 rw[hl5]at hvb
 obtain⟨cc,p0,p1,p2,p3⟩:=y9h (a:=a) (b:=b) ⟨ha,hl4,hl2⟩ ⟨hb0,hl5,hl3⟩
 have p3:=p3 (wds v)
 have s1:=zca (X:=56) (wds v) ((wds v).map (z5v v)) (zko (wds v)) hW a ha 0
 have s2:=zca (X:=56) (wds v) ((wds v).map (z5v v)) (zko (wds v)) hW b hb0 0
 have s3:=fun i (hi:i<4)=>zca (X:=56) (wds v) ((wds v).map (z5v v)) (zko (wds v)) hW (cc i) (p2 i hi).1 0
 have hsr:∀i,i<4→y0x (wds v) (cc i)=.tup [.d (inD (z5e (zk8 (fun n=>a.acc 0 (Go.Rx.z30 (wd (wds v) n))) (fun n=>b.acc 0 (Go.Rx.z30 (wd (wds v) n))) i) (wds v).length)),I .i64 0]:=fun i hi=>by
  rw[y0x,zAz (p2 i hi).2,p3 i hi]
 rw[y0x,zAz hl4]at s1
 rw[y0x,zAz hl5]at s2
 clear p2 p3
 have hsz:=zjo (X:=56) (wds v) ((wds v).map (z5v v)) (zko (wds v)) 0
 obtain⟨f,hfd⟩:∃f:Nat→Bool,(fun i=>a.acc 0 (Go.Rx.z30 (wd (wds v) i)))=f:=⟨_,rfl⟩
 obtain⟨g,hgd⟩:∃g:Nat→Bool,(fun i=>b.acc 0 (Go.Rx.z30 (wd (wds v) i)))=g:=⟨_,rfl⟩
 rw[hfd]at s1 hsr
 rw[hgd]at s2 hsr
 clear hfd hgd
 have oA:OkI (z5e f (wds v).length):=zmp _ (by omega)
 have oB:OkI (z5e g (wds v).length):=zmp _ (by omega)
 have oT:OkI (z5e (fun _=>true) (wds v).length):=zmp _ (by omega)
 have i1:=zlc _ _ oA oB
 have i2:=zt4 _ _ oA oB (by have:=zcn f (wds v).length;have:=zcn g (wds v).length;omega)
 have i3:=zfc _ _ oA oB
 have i4:=zfc _ _ oT oA
 rw[y5z]at i1
 rw[y55]at i2
 rw[y0v]at i3 i4
 rw[zg6 (f:=fun i=>true&&!f i) (g:=zk8 f g 0) fun i _=>Bool.true_and _,←y0t]at i4
 rw[show(fun i=>f i&&g i)=zk8 f g 1 from rfl]at i1
 rw[show(fun i=>f i||g i)=zk8 f g 2 from rfl]at i2
 rw[show(fun i=>f i&&!g i)=zk8 f g 3 from rfl]at i3
 have t1:∀i,z0a prog 16 [.d (inD (z5e (zk8 f g i) (wds v).length)),.d (inD (z5e (zk8 f g i) (wds v).length))] (B true):=fun i=>by
  have:=zm5 (z5e (zk8 f g i) (wds v).length) (z5e (zk8 f g i) (wds v).length) (by have:=zcn (zk8 f g i) (wds v).length;omega)
  rwa [zAi rfl]at this
 have s3':=fun i hi=>hsr i hi▸s3 i hi
 clear s3 hsr oA oB oT
 generalize z5e f (wds v).length=LA at *
 generalize z5e g (wds v).length=LB at *
 obtain⟨wn,hwn⟩:∃wn:Nat→List Int,(fun i=>z5e (zk8 f g i) (wds v).length)=wn:=⟨_,rfl⟩
 have hwi:∀i,z5e (zk8 f g i) (wds v).length=wn i:=fun i=>by rw[←hwn]
 simp only[hwi]at i1 i2 i3 i4 t1 s3'
 clear hwn hwi
 generalize zko (wds v)=rv at *
 generalize (wds v).map (z5v v)=C at *
 generalize wds v=W at *
 have hz0:(List.replicate W.length (0:Int))=zqz W.length 0:=rfl
 repeat' (first | (apply z06; (first | refine z6s hsz ?_| refine z6s s2 ?_| refine z6s s1 ?_| refine z1o hlo ?_| refine z1o hva ?_| refine z1o hvb ?_| (refine zee rfl (hb _) (by decide) rfl (fun r H' h => ⟨_, _, _, h.1, h.2, rfl, rfl, ?_⟩)) /- z65 -/ | refine z1o i1 ?_| refine z1o i2 ?_| refine z1o i3 ?_)) | (apply z1s; (refine z09 z4t ?_)) | (apply z1n; (refine z09 z3s ?_)) | (apply zd8; (refine zea (xs := (zqz W.length 0).map ic) rfl rfl (by omega) (by omega) rfl rfl rfl (by decide) (by rw [← hz0, List.map_replicate]; rfl) ?_)) | refine z04 ?_ | refine fk (fun _ => ?_) (fun _ => ?_))
 all_goals try (exfalso;first|omega|(simp at *;done))
 have hbx:zqz W.length W.length=(List.range W.length).map fun(i:Nat)=>(i:Int):=by simp
 refine z0f ?_
 refine z00 (z0s (fun i:Nat=>⟨156,[(4,.ptr (0,4) 0),(5,.ptr (0,5) 0),(7,.ptr (0,56) 0),(10,.d (inD LA)),(14,.d (inD (wn 1))),(16,.d (inD (wn 2))),(18,.d (inD (wn 3))),(20,.ref (0,94)),(96,I .i64 W.length),(97,I .i64 (i:Nat)),(100701,.al (0,701) (1,701)),(100700,.al (0,700) (1,700))],[(4,.box ((auc a).map .d)),(5,.box ((auc b).map .d)),(56,lexB W C rv),(94,.row 3 1 ((zqz W.length i).map ic)),(700,.glob 1 τ.o0),(701,.glob 2 τ.o1)],upd (upd H (0,700) .gone) (0,701) .gone⟩) (fun i=>i≤W.length) (fun i=>W.length-i) ?_ 0 (zAf _)) (by first|rfl|(rw[znm _ _ (zAf _)];rfl)) rfl
 rintro i i1 ih
 by_cases hlt:i<W.length
 ·have hg:=zzq hlt
  have hs:=zzn hlt
  have hll:=znm W.length i (by omega)
  have ih':=ih (i+1) (by omega) (by omega)
  clear ih
  generalize zqz W.length (i+1)=q2 at *
  generalize zqz W.length i=q1 at *
  repeat' first|(apply z01;refine z07 (z1a rfl (by rw[zA4];omega)) rfl rfl ?_)|(apply z0x;refine z3w ((i:Nat):Int) hg hs ?_)|refine z04 ?_|refine fk (fun _=>?_) fun _=>?_
  all_goals exact zD25
 obtain rfl:i=W.length:=by omega
 rw[hbx]
 clear ih hbx
 generalize ((List.range W.length).map fun(i:Nat)=>(i:Int))=RA at *
 refine z0o 94 rfl ?_
 repeat' first|(apply z06;refine z1o i4 ?_)|refine z04 ?_|refine fk (fun _=>?_) fun _=>?_
 all_goals try (exfalso;first|omega|(simp at *;done))
 refine z0f ?_
 refine z00 (z0s (fun i:Nat=>⟨156,[(4,.ptr (0,4) 0),(5,.ptr (0,5) 0),(7,.ptr (0,56) 0),(115,.d (.slice ([wn 0,wn 1,wn 2,wn 3].map ilc))),(116,I .i64 4),(117,I .i64 (i:Nat)),(100701,.al (0,701) (1,701)),(100700,.al (0,700) (1,700))],[(4,.box ((auc a).map .d)),(5,.box ((auc b).map .d)),(56,lexB W C rv),(700,.glob 1 τ.o0),(701,.glob 2 τ.o1)],upd (upd H (0,700) .gone) (0,701) .gone⟩) (fun i=>i≤4) (fun i=>4-i) ?_ 0 (by omega)) rfl rfl
 rintro i j1 ih
 by_cases hlt2:i<4
 ·have hwt:[wn 0,wn 1,wn 2,wn 3][i]? =some (wn i):=by
   match i,hlt2 with
   | 0,_=>rfl
   | 1,_=>rfl
   | 2,_=>rfl
   | 3,_=>rfl
  have hse:=s3' i hlt2
  have hti:=t1 i
  have ih':=ih (i+1) (by omega) (by omega)
  clear ih
  by_cases h00:i=0
  ·subst h00
   repeat' first|(apply z01;refine z07 (z1u (ys:=[wn 0,wn 1,wn 2,wn 3].map ilc) rfl (by decide) (idx hwt) rfl) rfl rfl ?_)|(apply z06;first|refine z6s hse ?_| refine z1o p0 ?_| refine z1o hti ?_)|(apply z1s;refine z09 z4t ?_)|refine z04 ?_|fail
   all_goals exact zD25
  ·have hp:=p1 i (by omega) hlt2
   repeat' first|(apply z01;refine z07 (z11 (ys:=[wn 0,wn 1,wn 2,wn 3].map ilc) rfl (idx hwt)) rfl rfl ?_)|(apply z06;first|refine z6s hse ?_| refine z1o hp ?_| refine z1o p0 ?_| refine z1o hti ?_)|(apply z1s;refine z09 z4t ?_)|refine z04 ?_|refine fk (fun _=>?_) fun _=>?_
   all_goals exact zD25
 obtain rfl:i=4:=by omega
 clear ih
 repeat' first|(apply z06;refine z6s haw ?_)|refine z04 ?_|fail
 all_goals try (exfalso;first|omega|(simp at *;done))
 all_goals exact zD82
end Go.Proofs.YtmcggompdmngmaaGreatDoor
