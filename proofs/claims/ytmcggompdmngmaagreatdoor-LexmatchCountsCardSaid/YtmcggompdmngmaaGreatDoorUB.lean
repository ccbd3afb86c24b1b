/- A part of the proof: L23 to L23. -/
import Derived.Test.YtmcggompdmngmaaGreatDoorUc
import Derived.Test.YtmcggompdmngmaaGreatDoorUf
import Derived.Test.YtmcggompdmngmaaGreatDoorUA
import Derived.Test.YtmcggompdmngmaaGreatDoorUD
import Derived.Test.YtmcggompdmngmaaGreatDoorUv
import Derived.Test.YtmcggompdmngmaaGreatDoorU1
set_option linter.all false
namespace Go.Proofs.YtmcggompdmngmaaGreatDoor
open Go.Ab Go.Rx Go.Lx Go.Ax
set_option maxHeartbeats 20000000
set_option maxRecDepth 100000
attribute [local irreducible] Run Ops Op1 z15 Val Tr z0d z0y NF Rel z2a z29 z5x
theorem zmd {L:List Bool} {i:Nat} {b:Bool} (h:L[i]? =some b):L.set i b=L:=by
 obtain⟨h1,h2⟩:=zA1.1 h
 rw[← h2];exact List.set_getElem_self h1
theorem ybb {i:Nat} {s:List Bool × Bool} {x:Arc} (hi:i<s.1.length):(mkA i s x).1=s.1.set i (s.1.getD i false||s.1.getD x.2.2.toNat false):=by
 have hs:=Go.Lx.getD_some hi
 rw[mkA]
 cases h1:s.1.getD i false with
 | true =>
  rw[zAy (fun h=>by cases h.1),Bool.true_or]
  rw[h1] at hs
  exact(zmd hs).symm
 | false =>
  rw[Bool.false_or]
  cases h2:s.1.getD x.2.2.toNat false with
  | true=>rw[zAz ⟨rfl,rfl⟩]
  | false =>
   rw[zAy (fun h=>by cases h.2)]
   rw[h1] at hs
   exact(zmd hs).symm
theorem y63 {a:Au} (hv:y8x a) (q:Int) (hq:q<a.F.length) (c:Int):a.nx q c<a.F.length:=by
 by_cases h:q<0
 · rw[a.nx_neg h];have:=hv.pos;omega
 · obtain⟨k,rfl⟩:∃ k:Nat,q=k:=⟨q.toNat,by omega⟩
   obtain⟨l,h1,h2,h3,h4,h5⟩:=zrg hv k (by omega) c
   rw[h3];exact h5
theorem y85 (a:Au) (hA:a.A.length=a.F.length) (hl:∀ l∈a.A,l.length≤4611686018427387904) (q:Int) (h1:q<a.F.length) (c:Int):z0d Tryz.prog 50 [.d (auD a),I .i64 q,I .i32 c] (I .i64 (a.nx q c)):=by
 by_cases hq:q<0
 · rw[a.nx_neg hq];exact zii a q hq c
 · obtain⟨k,rfl⟩:∃ k:Nat,q=k:=⟨q.toNat,by omega⟩
   exact zsv a k (by omega) hl c
abbrev zpy (K:List ByteArray):List (ByteArray × D):=K.map fun x=>(x,.lit (.bool true))
abbrev mpK (K:List ByteArray):Blk:=.mp ((zpy K).map fun p=>(Value.string p.1,p.2))
theorem zh2 (x:ByteArray):∀ K:List ByteArray,z99 (zpy K) x (.lit (.bool true))=zpy (zal K x)
 | []=>rfl
 | k::K=>by
  have ih:=zh2 x K
  simp only[zpy,List.map_cons,z99,zal] at ih ⊢
  by_cases h:k=x
  · subst h;rw[zAz rfl,zAz (by simp)];rfl
  · rw[zAy h,ih]
    by_cases g:x∈K
    · rw[zAz g,zAz (List.mem_cons_of_mem _ g)];rfl
    · rw[zAy g,zAy (by simp only[zAc,not_or];exact⟨fun e=>h e.symm,g⟩)];rfl
theorem zop:Tryz.prog.underlying 99=some (.map 9 4):=by kernel_rfl
theorem zta (W:List ByteArray) (z:D) (hW:zkz W) (hasc:z9h W) (a:Au) (hf:zp7 a):z0d Tryz.prog 19 [.d (.agg [.slice (W.map stc),z]),.d (auD a)] (zrp W a):=by
 refine z14 fun H=>?_
 have hva:=zc4 a hf
 refine z0a Tryz.func19 (by kernel_rfl) rfl (by simp) ?_
 dsimp only[Tryz.f19]
 by_cases h0:vAu a=0
 case neg =>
  rw[zrp,zAy h0]
  generalize vAu a=v at *
  obtain⟨F,A⟩:=a
  repeat' (first|(apply z03;(refine z1i hva ?_))|(apply z1v;(refine z0e z4a ?_))|refine z05 ?_|refine fk (fun _=>?_) (fun _=>?_))
  all_goals try (exfalso;omega)
  all_goals exact z00 Tryz.func19 _ z0s ⟨rfl,rfl⟩
 rw[h0] at hva
 rw[zrp,zAz h0,zyg]
 have hok:=(zd3 h0).1
 have hal:=(zd3 h0).2
 have hav:=zgb h0
 have hw:=zus h0
 have hAF:=hok.len
 have hpos:=hok.pos
 have hfew:=hav.few
 have hWl:=hW.len
 have hno:=zlc hw
 have hye:=zyx hw
 have hnx:=fun (q:Int) (hq:q<a.F.length) (c:Int)=>y85 a hAF (fun l h=>by have:=hal l h;omega) q hq c
 have hnl:=fun (q:Int) (hq:q<a.F.length) (c:Int)=>y63 hav q hq c
 have hVL:=fun n=>zom (F:=a.F) (A:=a.A) hAF n a.F rfl
 have hlive:=hVL a.F.length List.count_le_length (fun q hq=>.fin q hq) (ze9 _) (fun l hl x hx=>((hok.arc l hl).2.2 x hx).2.2.2)
 have hll:=zcb a.F a.A
 obtain⟨LV,hLV⟩:∃ L,z5h a.F a.A=L:=⟨_,rfl⟩
 rw[hLV] at hlive hll hno hye ⊢
 have hK:=fun hn=>zx4 (a:=a) (lv:=LV) hno hye (W:=W) hasc hn
 have hKd:=fun h0=>zih (a:=a) (lv:=LV) hno hye h0 W []
 obtain⟨F,A⟩:=a
 simp only at hnx hnl hll hpos hAF hal hlive hfew
 obtain⟨T,hT⟩:∃ T:Int,(if W.length=0∨LV.getD 0 false=false then 0 else ((1+zi7 ⟨F,A⟩ LV ByteArray.empty W:Nat):Int))=T:=⟨_,rfl⟩
 rw[hT]
 have hrng:∀ l∈A,∀ x∈l,0≤x.2.2∧x.2.2<F.length:=fun l hl x hx=>((hok.arc l hl).2.2 x hx).2.2.2
 repeat' (first|(apply z1q;(refine y5q (r:=F) (g:=boc) rfl rfl rfl (fun _=>rfl) rfl rfl (by decide) (by omega) ?_))|(apply z03;(refine z1i hva ?_))|(apply z1v;(refine z0e z4a ?_))|refine z05 ?_|fail)
 all_goals try (exfalso;omega)
 refine z0j ?_
 refine z01 (z0z (fun z1:Nat × List Bool=>⟨108,[(2,.ptr (0,2) 0),(3,.ptr (0,3) 0),(6,.ref (0,21)),(23,I .i64 F.length),(24,I .i64 (z1.1:Nat))],[(2,.box [.d (.slice (W.map stc)),.d z]),(3,.box [.d (zeb F),.d (.slice (A.map z6w))]),(21,.row 4 1 (z1.2.map boc))],H⟩) (fun z1=>z1.1≤F.length∧z1.2.length=F.length∧mkV A (F.length-z1.1) z1.2=LV) (fun z1=>F.length-z1.1) ?_ (0,F) ⟨zAf _,rfl,hlive⟩) (by first|rfl|(rw[zA4];rfl)) rfl
 rintro⟨r,L0⟩ ⟨i1,i2,i3⟩ ih
 simp only at i1 i2 i3 ih ⊢
 by_cases hlt:r<F.length
 · rw[show F.length-r=(F.length-(r+1))+1 by omega,mkV] at i3
   obtain⟨L9,hL9⟩:∃ L9,(mkP 0 A (L0,false)).1=L9:=⟨_,rfl⟩
   rw[hL9] at i3
   have ih1:=fun (h:L9.length=F.length)=>ih (r+1,L9) ⟨by simp only;omega,h,i3⟩ (by simp only;omega)
   simp only at ih1
   clear ih
   repeat' (first|(apply z1q;(refine z0b (z5s rfl) rfl rfl ?_))|refine z05 ?_|refine fk (fun _=>?_) (fun _=>?_))
   all_goals try (exfalso;omega)
   refine z0j ?_
   refine z01 (z0z (fun z1:Nat × List Bool × Bool=>⟨108,[(2,.ptr (0,2) 0),(3,.ptr (0,3) 0),(6,.ref (0,21)),(23,I .i64 F.length),(24,I .i64 (r:Nat)),(27,I .i64 F.length),(28,I .i64 (z1.1:Nat))],[(2,.box [.d (.slice (W.map stc)),.d z]),(3,.box [.d (zeb F),.d (.slice (A.map z6w))]),(21,.row 4 1 (z1.2.1.map boc))],H⟩)
    (fun z1=>z1.1≤A.length∧z1.2.1.length=F.length∧(mkP z1.1 (A.drop z1.1) z1.2).1=L9) (fun z1=>A.length-z1.1) ?_ (0,L0,false) ⟨zAf _,i2,hL9⟩) (by first|rfl|(rw[zA4,i2];rfl)) rfl
   rintro⟨i,L1,m1⟩ ⟨j1,j2,j3⟩ ihi
   simp only at j1 j2 j3 ihi ⊢
   by_cases hlt1:i<A.length
   · obtain⟨l,hl⟩:∃ l,A[i]? =some l:=⟨_,zA0 hlt1⟩
     have hlr:=hrng l (zA2 hl)
     have hlm:=hal l (zA2 hl)
     rw[drop_cons hl,mkP] at j3
     repeat' (first|(apply z06;(refine z0b (z1a (ys:=A.map z6w) rfl (idx hl)) rfl rfl ?_))|refine z05 ?_|refine fk (fun _=>?_) (fun _=>?_))
     all_goals try (exfalso;omega)
     refine z0j ?_
     refine z01 (z0z (fun z1:Nat × List Bool × Bool=>⟨108,[(2,.ptr (0,2) 0),(3,.ptr (0,3) 0),(6,.ref (0,21)),(23,I .i64 F.length),(24,I .i64 (r:Nat)),(27,I .i64 F.length),(28,I .i64 (i:Nat)),(7,I .i64 (i:Nat)),(35,.d (zvh l)),(36,I .i64 l.length),(37,I .i64 (z1.1:Nat))],[(2,.box [.d (.slice (W.map stc)),.d z]),(3,.box [.d (zeb F),.d (.slice (A.map z6w))]),(21,.row 4 1 (z1.2.1.map boc))],H⟩)
      (fun z1=>z1.1≤l.length∧z1.2.1.length=F.length∧(l.drop z1.1).foldl (mkA i) z1.2=l.foldl (mkA i) (L1,m1)) (fun z1=>l.length-z1.1) ?_ (0,L1,m1) ⟨zAf _,j2,rfl⟩) rfl rfl
     rintro⟨j,L2,m2⟩ ⟨k1,k2,k3⟩ ihj
     simp only at k1 k2 k3 ihj ⊢
     by_cases hj:j<l.length
     · obtain⟨x,hx⟩:∃ x,l[j]? =some x:=⟨_,zA0 hj⟩
       obtain⟨x1,x2⟩:=hlr x (zA2 hx)
       have hLi:L2[i]? =some (L2.getD i false):=Go.Lx.getD_some (by omega)
       have hLx:L2[x.2.2.toNat]? =some (L2.getD x.2.2.toNat false):=Go.Lx.getD_some (by omega)
       rw[drop_cons hx,List.foldl_cons] at k3
       have hm1:=ybb (i:=i) (s:=(L2,m2)) (x:=x) (by simp only;omega)
       simp only at hm1
       have ihj':=ihj (j+1,mkA i (L2,m2) x) ⟨by simp only;omega,by simp only;rw[hm1,List.length_set];exact k2,k3⟩ (by simp only;omega)
       simp only at ihj'
       rw[hm1] at ihj'
       clear ihj k3 hm1
       generalize hb1:L2.getD i false=b1 at *
       generalize hb2:L2.getD x.2.2.toNat false=b2 at *
       clear hb1 hb2
       cases b1
       all_goals cases b2
       · repeat' (first|(apply z0f;(first|refine z0b (z0i hLi) rfl rfl ?_| refine z0b (z0i hLx) rfl rfl ?_))|(apply z06;(first|refine z0b (z1a (ys:=l.map z8m) rfl (idx hx)) rfl rfl ?_| refine z0b (z1c rfl (by rw[zA4];omega)) rfl rfl ?_))|(apply z0n;(refine z4q false rfl rfl rfl rfl hLi rfl rfl rfl rfl ?_))|(apply z1p;(refine z0e z3r ?_))|refine z05 ?_|refine fk (fun _=>?_) (fun _=>?_))
         all_goals exact zD78
       · repeat' (first|(apply z0f;(first|refine z0b (z0i hLi) rfl rfl ?_| refine z0b (z0i hLx) rfl rfl ?_))|(apply z06;(first|refine z0b (z1a (ys:=l.map z8m) rfl (idx hx)) rfl rfl ?_| refine z0b (z1c rfl (by rw[zA4];omega)) rfl rfl ?_))|(apply z0n;(refine z4q true rfl rfl rfl rfl hLi rfl rfl rfl rfl ?_))|(apply z1p;(refine z0e z3r ?_))|refine z05 ?_|refine fk (fun _=>?_) (fun _=>?_))
         all_goals exact zD78
       all_goals (repeat' (first|(apply z0f;(refine z0b (z0i hLi) rfl rfl ?_))|(apply z06;(first|refine z0b (z1a (ys:=l.map z8m) rfl (idx hx)) rfl rfl ?_| refine z0b (z1c rfl (by rw[zA4];omega)) rfl rfl ?_))|(apply z0n;(refine z4q true rfl rfl rfl rfl hLi rfl rfl rfl rfl ?_))|(apply z1p;(refine z0e z3r ?_))|refine z05 ?_|refine fk (fun _=>?_) (fun _=>?_)))
       all_goals exact zD78
     · exact zD60
   · obtain rfl:i=A.length:=by omega
     rw[zAs,mkP] at j3
     simp only at j3
     subst j3
     have ih':=ih1 j2
     clear ihi ih1
     all_goals exact zD105
 · obtain rfl:r=F.length:=by omega
   rw[Nat.sub_self,mkV] at i3
   subst i3
   clear ih hlive
   have hvw:=hW.vld
   have hKl:=hK hvw
   have hL0:L0[(0:Int).toNat]? =some (L0.getD 0 false):=Go.Lx.getD_some (by show 0<L0.length;omega)
   have key:∀ K0:List ByteArray,(K0=if L0.getD 0 false=true∧¬ W.length=0 then [ByteArray.empty] else [])→((zib ⟨F,A⟩ L0 K0 W).length:Int)=T:=fun K0 hK0=>by
    rw[← hT,hK0]
    by_cases c1:W.length=0
    · rw[zAy (fun g=>g.2 c1),zAz (.inl c1),List.length_eq_zero_iff.1 c1];rfl
    · cases c2:L0.getD 0 false with
      | true=>rw[zAz ⟨rfl,c1⟩,zAy (by rw[not_or];exact⟨c1,by decide⟩),hKl]
      | false=>rw[zAy (fun g=>by cases g.1),zAz (.inr rfl),hKd (hno 0 c2)];rfl
   by_cases c1:L0.getD 0 false=true∧¬ W.length=0
   · have key1:=key [ByteArray.empty] (by rw[zAz c1])
     rw[c1.1] at hL0
     have c2:=c1.2
     clear key
     repeat' (first|(apply z16;(refine zmm (q:=([]:List (ByteArray × D))) (a:=ByteArray.empty) (v:=.lit (.bool true)) (g:=fun x:ByteArray=>Value.string x) zop y4i zfm rfl rfl rfl rfl rfl ?_))|(apply z0f;(refine z0b (z0i hL0) rfl rfl ?_))|(apply z06;(refine z0b (z1c rfl (by rw[zA4];omega)) rfl rfl ?_))|refine z05 ?_|refine fk (fun _=>?_) (fun _=>?_)|(apply z16;(refine ze4 (by decide) rfl ?_)))
     all_goals try (exfalso;first|omega|(simp at *;done))
     refine z0j ?_
     refine z01 (z0z (fun z1:Nat × List ByteArray=>⟨108,[(2,.ptr (0,2) 0),(3,.ptr (0,3) 0),(6,.ref (0,21)),(10,.ref (0,58)),(70,.d (.slice (W.map stc))),(71,I .i64 W.length),(72,I .i64 (z1.1:Nat))],[(2,.box [.d (.slice (W.map stc)),.d z]),(3,.box [.d (zeb F),.d (.slice (A.map z6w))]),(21,.row 4 1 (L0.map boc)),(58,mpK z1.2)],H⟩) (fun z1=>z1.1≤W.length∧zib ⟨F,A⟩ L0 z1.2 (W.drop z1.1)=zib ⟨F,A⟩ L0 [ByteArray.empty] W) (fun z1=>W.length-z1.1) ?_ (0,[ByteArray.empty]) ⟨zAf _,rfl⟩) rfl rfl
     exact zD1
   · have key1:=key [] (by rw[zAy c1])
     clear key
     generalize hb:L0.getD 0 false=b at *
     cases b with
     | false =>
      repeat' (first|(apply z0f;(refine z0b (z0i hL0) rfl rfl ?_))|(apply z06;(refine z0b (z1c rfl (by rw[zA4];omega)) rfl rfl ?_))|refine z05 ?_|refine fk (fun _=>?_) (fun _=>?_)|(apply z16;(refine ze4 (by decide) rfl ?_)))
      all_goals try (exfalso;first|omega|(simp at *;done))
      refine z0j ?_
      refine z01 (z0z (fun z1:Nat × List ByteArray=>⟨108,[(2,.ptr (0,2) 0),(3,.ptr (0,3) 0),(6,.ref (0,21)),(10,.ref (0,58)),(70,.d (.slice (W.map stc))),(71,I .i64 W.length),(72,I .i64 (z1.1:Nat))],[(2,.box [.d (.slice (W.map stc)),.d z]),(3,.box [.d (zeb F),.d (.slice (A.map z6w))]),(21,.row 4 1 (L0.map boc)),(58,mpK z1.2)],H⟩) (fun z1=>z1.1≤W.length∧zib ⟨F,A⟩ L0 z1.2 (W.drop z1.1)=zib ⟨F,A⟩ L0 ([]:List ByteArray) W) (fun z1=>W.length-z1.1) ?_ (0,([]:List ByteArray)) ⟨zAf _,rfl⟩) rfl rfl
      exact zD1
     | true =>
      have c2:W.length=0:=by
       by_cases g:W.length=0
       · exact g
       · exact absurd ⟨rfl,g⟩ c1
      repeat' (first|(apply z0f;(refine z0b (z0i hL0) rfl rfl ?_))|(apply z06;(refine z0b (z1c rfl (by rw[zA4];omega)) rfl rfl ?_))|refine z05 ?_|refine fk (fun _=>?_) (fun _=>?_)|(apply z16;(refine ze4 (by decide) rfl ?_)))
      all_goals try (exfalso;first|omega|(simp at *;done))
      rw[← key1,List.length_eq_zero_iff.1 c2]
      refine z0j ?_
      refine zch ?_
      repeat' (first|(apply z16;(refine z0e (zlq (es:=[]) zop rfl rfl (by decide)) ?_))|refine z05 ?_|fail)
      all_goals try (exfalso;omega)
      all_goals exact z00 Tryz.func19 _ z0s ⟨rfl,rfl⟩
end Go.Proofs.YtmcggompdmngmaaGreatDoor
