/- A part of the proof: L30 to L27. -/
import Derived.Test.YtmcggompdmngmaaGreatDoorWc
import Derived.Test.YtmcggompdmngmaaGreatDoorW6
import Derived.Test.YtmcggompdmngmaaGreatDoorWz
import Derived.Test.YtmcggompdmngmaaGreatDoorWe
import Derived.Test.YtmcggompdmngmaaGreatDoorWf
import Derived.Test.YtmcggompdmngmaaGreatDoorWp
import Derived.Test.YtmcggompdmngmaaGreatDoorWv
import Derived.Test.YtmcggompdmngmaaGreatDoorWb
import Derived.Test.YtmcggompdmngmaaGreatDoorWA
import Derived.Test.YtmcggompdmngmaaGreatDoorWo
import Derived.Test.YtmcggompdmngmaaGreatDoorWI
import Derived.Test.YtmcggompdmngmaaGreatDoorW5
import Derived.Test.YtmcggompdmngmaaGreatDoorW1
import Derived.Test.YtmcggompdmngmaaGreatDoorWr
set_option linter.all false
namespace Go.Proofs.YtmcggompdmngmaaGreatDoor
open Go.Ab Go.Ax Go.Rx Go.Lx Go.ChangeShapes Go.WideShapes Go.ChangeAt Go.RowKit
set_option maxHeartbeats 20000000
set_option maxRecDepth 100000
theorem y3j {H:Type} {enc:TypeId × Value→H} {W:World} {v:Value} {d:DataW H} {p:List MemPlace} {r:Reach} {b0:Nat} (hsep:∀ g o v,zi7 g→W.cell? ⟨g,o,none⟩=some v→∃ z,v=.int .u8 z) (hval:Value.okWide Tryz.prog W r b0 22 v)
 (h:DataW.Trod enc Tryz.prog W 0 (fun _=>true) true 22 v d p):∃ a:List ByteArray,a.length≤9223372036854775807∧DR W zi7 (.slice (a.map stc)) v:=by
 obtain⟨ds,h1,_,h2⟩:=zlb hsep (G:=[22,9]) (by kernel_rfl) (by kernel_rfl) (by decide) hval h
 obtain⟨l,rfl,hl,_⟩:=h1.inv_list (e:=9) stc (fun _=>True) (by kernel_rfl) fun x hx=>by
  obtain⟨s,rfl,_⟩:=hx.inv_str (by kernel_rfl)
  exact⟨s,rfl,trivial⟩
 exact⟨l,hl,h2 _ rfl fun fs hs=>by
  have e:Tryz.prog.underlying 22=some (.slice 9):=by kernel_rfl
  rw[e] at hs;simp at hs⟩
end Go.Proofs.YtmcggompdmngmaaGreatDoor
namespace Go.Proofs.YtmcggompdmngmaaGreatDoor
open Go.Ab Go.Rx Go.Lx Go.Ax
set_option maxHeartbeats 20000000
set_option maxRecDepth 100000
attribute [local irreducible] Run Ops Op1 z14 Val Tr z0d z0w NF Rel z1z z27 z5x
section
variable {X:Nat}
theorem zma (W:List ByteArray) (C:List Nat) (rv:D) (hl:W.length≤5000) (g:Nat) (bs1:List (Nm × Blk)) (f:ByteArray→Bool) (hf:∀ w∈W,z0w Tryz.prog g ([S w]++[.ptr (1,3) 0]) bs1 [] (B (f w))) (e0:Nat) (H:Hf)
 (hX:H e0 X=some (lexB W C rv)) (hb:∀ (n:Nat) (tm:List (Nat × PV)) (hp:Hp),BkE ⟨n,tm,hp,H⟩ bs1) :
 Ab.Spec Tryz.prog 59 [.ptr (e0,X) 0,.fn (.func g) [] [.ptr (0,3) 0]] H (fun r H'=>r=.v (.d (inD (z61 (fun i=>f (wd W i)) W.length)))∧H'=H):=by
 have hX:H ((e0,X),lexB W C rv).1.1 ((e0,X),lexB W C rv).1.2=some ((e0,X),lexB W C rv).2:=hX
 have hsz:=zhx (X:=X) W C rv (e0+1)
 have hwo:=fun (i:Nat) (hi:i<W.length)=>zla (X:=X) W C rv (e0+1) i hi
 have hbX:∀ (n:Nat) (tm:List (Nat × PV)) (hp:Hp),BkE ⟨n,tm,hp,H⟩ [((e0+1,X),lexB W C rv)]:=fun n tm hp=>z07 (m:=(e0+1,X)) hX z5h
 refine z08 Tryz.func59 (by kernel_rfl) rfl (by simp) ?_
 dsimp only[Tryz.f59]
 repeat' (first|(apply z03;(refine z0s hsz (hbX _ _ _) ?_))|refine z05 ?_|fail)
 all_goals try (exfalso;omega)
 refine z1t 5 1000 3 1 rfl rfl rfl ?_
 refine z0l ?_
 refine z01 (z0x (fun z:Nat × List Nat=>⟨29,[(0,.ptr (e0+1,X) 0),(1,.fn (.func g) [] ([.ptr (1,3) 0])),(5,.ref (0,1000)),(10,I .i64 W.length),(11,I .i64 (z.1:Nat))],[(1000,.row 3 1 (z.2.map nmc))],H⟩) (fun z=>z.1≤W.length∧z.2=sel (fun i=>f (wd W i)) z.1) (fun z=>W.length-z.1) ?_ (0,[]) ⟨zAf _,rfl⟩) rfl rfl
 rintro⟨n,out⟩ ⟨i1,i2⟩ ih
 simp only at i1 i2 ih ⊢
 have hol:out.length≤n:=by rw[i2];exact zkr _ n
 by_cases hlt:n<W.length
 · have hwd:=hwo n hlt
   have hfw:=hf _ (z7j hlt)
   have ih':=ih (n+1,out++if f (wd W n)=true then [n] else []) ⟨by simp only;omega,by simp only;rw[z6z,← i2]⟩ (by simp only;omega)
   simp only at ih'
   clear ih
   generalize wd W n=w at *
   cases hv:f w with
   | true =>
    rw[hv] at hfw ih'
    rw[zAz rfl] at ih'
    repeat' (first|(apply z1q;(refine z47 (g:=nmc) n rfl ?_))|(apply z03;(first|refine zre (first:=[]) (cap:=[.ptr (1,3) 0]) (ps:=[S w]) hfw rfl rfl (hb _ _ _) (by decide) ?_|refine z0s hwd (hbX _ _ _) ?_))|refine z05 ?_|refine fk (fun _=>?_) (fun _=>?_))
    all_goals try (exfalso;omega)
    refine z2i 26 1000 ?_
    exact z01 ih' rfl rfl
   | false =>
    rw[hv] at hfw ih'
    rw[zAy (by decide),List.append_nil] at ih'
    repeat' (first|(apply z03;(first|refine zre (first:=[]) (cap:=[.ptr (1,3) 0]) (ps:=[S w]) hfw rfl rfl (hb _ _ _) (by decide) ?_|refine z0s hwd (hbX _ _ _) ?_))|refine z05 ?_|refine fk (fun _=>?_) (fun _=>?_))
    all_goals exact zD12
 · obtain rfl:n=W.length:=by omega
   rw[z61,← i2,zzl]
   clear ih
   refine z13 1000 rfl ?_
   repeat' (first|refine z05 ?_|refine fk (fun _=>?_) (fun _=>?_))
   all_goals try (exfalso;omega)
   all_goals exact z00 Tryz.func59 _ z11 ⟨rfl,rfl⟩
theorem y4e (e:Rx) (hf:fit e) (s:ByteArray) (hs:s.size≤1000000) (e0 m:Nat):z0w Tryz.prog 60 [S s,.ptr (e0,m) 0] [((e0,m),.box ((rxc e).map .d))] [] (B (mtS (fun c=>[c]) e s)):=by
 refine z10 fun H hH=>?_
 have hX:=hH ((e0,m),.box ((rxc e).map .d)) (by simp)
 have hm:=zm4 e hf s hs
 obtain⟨b,hb⟩:∃ b,mtS (fun c=>[c]) e s=b:=⟨_,rfl⟩
 rw[hb] at hm ⊢
 refine z08 Tryz.func60 (by kernel_rfl) rfl (by simp) ?_
 dsimp only[Tryz.f60]
 repeat' (first|(apply z0i;(refine z0c (z7i (m:=(e0+1,m)) (b:=.box ((rxc e).map .d)) (zlm _ _) (z3k e) rfl) rfl (bkN hX) ?_))|(apply z03;(refine z1i hm ?_))|refine z05 ?_|fail)
 all_goals try (exfalso;omega)
 all_goals exact z00 Tryz.func60 _ z11 ⟨rfl,rfl⟩
theorem y0w (e:Rx) (hf:fit e) (s:ByteArray) (hs:s.size≤1000000) (e0 m:Nat):z0w Tryz.prog 73 [S s,.ptr (e0,m) 0] [((e0,m),.box ((rxc e).map .d))] [] (B (mtS zep e s)):=by
 refine z10 fun H hH=>?_
 have hX:=hH ((e0,m),.box ((rxc e).map .d)) (by simp)
 have hm:=zx6 e hf s hs
 obtain⟨b,hb⟩:∃ b,mtS zep e s=b:=⟨_,rfl⟩
 rw[hb] at hm ⊢
 refine z08 Tryz.func73 (by kernel_rfl) rfl (by simp) ?_
 dsimp only[Tryz.f73]
 repeat' (first|(apply z0i;(refine z0c (z7i (m:=(e0+1,m)) (b:=.box ((rxc e).map .d)) (zlm _ _) (z3k e) rfl) rfl (bkN hX) ?_))|(apply z03;(refine z1i hm ?_))|refine z05 ?_|fail)
 all_goals try (exfalso;omega)
 all_goals exact z00 Tryz.func73 _ z11 ⟨rfl,rfl⟩
def y20 (W:List ByteArray) (e:Rx) (f:ByteArray→Bool):PV:=if val e=0 then .tup [.d (inD (z61 (fun i=>f (wd W i)) W.length)),I .i64 0] else .tup [.d (inD []),I .i64 1]
theorem zow (W:List ByteArray) (C:List Nat) (rv:D) (hW:zp7 W) (e:Rx) (hf:fit e) (e0:Nat):z0w Tryz.prog 22 [.ptr (e0,X) 0,.d (Drx e)] [((e0,X),lexB W C rv)] [] (y20 W e (mtS (fun c=>[c]) e)):=by
 refine z10 fun H hH=>?_
 have hX:=hH ((e0,X),lexB W C rv) (by simp)
 have hva:=z6a e hf
 have hfl:z0w Tryz.prog 59 [.ptr (e0+1,X) 0,.fn (.func 60) [] [.ptr (0,3) 0]] [((0,3),.box ((rxc e).map .d)),((e0+1,X),lexB W C rv)] [] (.d (inD (z61 (fun i=>mtS (fun c=>[c]) e (wd W i)) W.length))):=by
  refine z10 fun H hH=>?_
  have hA:=hH ((0,3),.box ((rxc e).map .d)) (by simp)
  have hX:=hH ((e0+1,X),lexB W C rv) (by simp)
  refine zma W C rv hW.len 60 [((1,3),.box ((rxc e).map .d))] (mtS (fun c=>[c]) e) (fun w hw=>y4e e hf w (by have:=hW.size w hw;omega) 1 3) (e0+1) H hX (fun n tm hp=>by simp only[BkE,List.map_cons,List.map_nil,List.cons.injEq,and_true];exact hA)
 rw[y20]
 generalize z61 (fun i=>mtS (fun c=>[c]) e (wd W i)) W.length=R at *
 have hbk:∀ (n:Nat) (tm:List (Nat × PV)) (hp:Hp),Ab.look hp 3=some (.box ((rxc e).map .d))→BkE ⟨n,tm,hp,H⟩ [((0,3),.box ((rxc e).map .d)),((e0+1,X),lexB W C rv)]:=fun n tm hp h3=>by simp[BkE,z3m,push,h3,hX]
 refine z08 Tryz.func22 (by kernel_rfl) rfl (by simp) ?_
 dsimp only[Tryz.f22]
 by_cases h0:val e=0
 · rw[h0] at hva
   rw[zAz h0]
   repeat' (first|(apply z1b;(refine z9k rfl rfl (by decide) ?_))|(apply z0i;(refine z0c (z7i (m:=(0,3)) (b:=.box ((rxc e).map .d)) rfl (z3k e) rfl) rfl rfl ?_))|(apply z03;(first|refine z7u hfl rfl (hbk _ _ _ rfl) (by decide) ?_|refine z1i hva ?_))|refine z05 ?_|fail)
   all_goals try (exfalso;omega)
   all_goals exact z00 Tryz.func22 _ z0z ⟨rfl,rfl⟩
 · rw[zAy h0]
   generalize val e=v at *
   repeat' (first|(apply z0i;(refine z0c (z7i (m:=(0,3)) (b:=.box ((rxc e).map .d)) rfl (z3k e) rfl) rfl rfl ?_))|(apply z03;(refine z1i hva ?_))|refine z05 ?_|refine fk (fun _=>?_) (fun _=>?_))
   all_goals try (exfalso;omega)
   all_goals refine y0u 4 rfl ?_
   all_goals exact z00 Tryz.func22 _ z0z ⟨rfl,rfl⟩
theorem zbj (W:List ByteArray) (C:List Nat) (rv:D) (hW:zp7 W) (e:Rx) (hf:fit e) (e0:Nat):z0w Tryz.prog 33 [.ptr (e0,X) 0,.d (Drx e)] [((e0,X),lexB W C rv)] [] (y20 W e (mtS zep e)):=by
 refine z10 fun H hH=>?_
 have hX:=hH ((e0,X),lexB W C rv) (by simp)
 have hva:=z6a e hf
 have hfl:z0w Tryz.prog 59 [.ptr (e0+1,X) 0,.fn (.func 73) [] [.ptr (0,3) 0]] [((0,3),.box ((rxc e).map .d)),((e0+1,X),lexB W C rv)] [] (.d (inD (z61 (fun i=>mtS zep e (wd W i)) W.length))):=by
  refine z10 fun H hH=>?_
  have hA:=hH ((0,3),.box ((rxc e).map .d)) (by simp)
  have hX:=hH ((e0+1,X),lexB W C rv) (by simp)
  refine zma W C rv hW.len 73 [((1,3),.box ((rxc e).map .d))] (mtS zep e) (fun w hw=>y0w e hf w (by have:=hW.size w hw;omega) 1 3) (e0+1) H hX (fun n tm hp=>by simp only[BkE,List.map_cons,List.map_nil,List.cons.injEq,and_true];exact hA)
 rw[y20]
 generalize z61 (fun i=>mtS zep e (wd W i)) W.length=R at *
 have hbk:∀ (n:Nat) (tm:List (Nat × PV)) (hp:Hp),Ab.look hp 3=some (.box ((rxc e).map .d))→BkE ⟨n,tm,hp,H⟩ [((0,3),.box ((rxc e).map .d)),((e0+1,X),lexB W C rv)]:=fun n tm hp h3=>by simp[BkE,z3m,push,h3,hX]
 refine z08 Tryz.func33 (by kernel_rfl) rfl (by simp) ?_
 dsimp only[Tryz.f33]
 by_cases h0:val e=0
 · rw[h0] at hva
   rw[zAz h0]
   repeat' (first|(apply z1b;(refine z9k rfl rfl (by decide) ?_))|(apply z0i;(refine z0c (z7i (m:=(0,3)) (b:=.box ((rxc e).map .d)) rfl (z3k e) rfl) rfl rfl ?_))|(apply z03;(first|refine z7u hfl rfl (hbk _ _ _ rfl) (by decide) ?_|refine z1i hva ?_))|refine z05 ?_|fail)
   all_goals try (exfalso;omega)
   all_goals exact z00 Tryz.func33 _ z0z ⟨rfl,rfl⟩
 · rw[zAy h0]
   generalize val e=v at *
   repeat' (first|(apply z0i;(refine z0c (z7i (m:=(0,3)) (b:=.box ((rxc e).map .d)) rfl (z3k e) rfl) rfl rfl ?_))|(apply z03;(refine z1i hva ?_))|refine z05 ?_|refine fk (fun _=>?_) (fun _=>?_))
   all_goals try (exfalso;omega)
   all_goals refine y0u 4 rfl ?_
   all_goals exact z00 Tryz.func33 _ z0z ⟨rfl,rfl⟩
end
theorem y7g {v:List ByteArray} (h:zfd v):zp7 (wds v) :=
 ⟨zaf v,by have:=h.few;omega,fun w hw=>h.vld w ((z8w v w).1 hw),fun w hw=>by have:=h.size w ((z8w v w).1 hw);omega⟩
abbrev sT:ByteArray:=⟨#[97,46,42]⟩
abbrev sB:ByteArray:=⟨#[97,98]⟩
abbrev eT:Rx:=.mk 2 0 0 [] [.mk 1 0 0 [(97,97)] [],.mk 4 0 (-1) [] [.mk 1 0 0 [(0,1114111)] []]]
abbrev eB2:Rx:=.mk 2 0 0 [] [.mk 1 0 0 [(97,97)] [],.mk 1 0 0 [(98,98)] []]
abbrev cT:Au:=⟨[false,true,true],[[(97,97,1)],[(0,1114111,2)],[(0,1114111,2)]]⟩
abbrev v0:List ByteArray:=[⟨#[98]⟩,⟨#[65,98]⟩,⟨#[97,98]⟩,⟨#[97]⟩]
abbrev W0:List ByteArray:=[⟨#[65,98]⟩,⟨#[97]⟩,⟨#[97,98]⟩,⟨#[98]⟩]
theorem y4l:wds v0=W0:=by kernel_rfl
theorem pT:zdj sT=(eT,0,0):=by kernel_rfl
theorem pB:zdj sB=(eB2,0,0):=by kernel_rfl
theorem ybj:zfd v0:=⟨by decide,by rw[y4l];decide,by decide,fun w hw=>by
 have h:v0.all zbo=true:=by kernel_rfl
 exact List.all_eq_true.1 h w hw⟩
theorem yay:zp7 W0:=by rw[← y4l];exact y7g ybj
theorem ybo:fit eT:=by simp[fit,zl2]
theorem y90:fit eB2:=by simp[fit,zl2]
theorem bdT:bd eT tb0=(⟨[[(97,97)],[(0,1114111)]],[2,2]⟩,⟨1,3,false⟩):=by rfl
theorem y9p:zd7 eT=some cT:=by
 rw[zd7,zrr]
 simp only[y3g,bdT]
 kernel_rfl
theorem yb7:vAu cT=0:=by kernel_rfl
theorem zz7:y8f cT:=⟨by decide,by decide,by decide⟩
theorem yc6:z61 (fun i=>cT.acc 0 (Go.Rx.z3l (wd W0 i))) W0.length=[1,2]:=by kernel_rfl
theorem ybl:z61 (fun i=>mtS zep eB2 (wd W0 i)) W0.length=[0,2]:=by kernel_rfl
theorem y9w:z6e cT.F cT.A=[true,true,true]:=by
 have f1:z5y cT.F cT.A 1:=.fin 1 rfl
 have f2:z5y cT.F cT.A 2:=.fin 2 rfl
 have f0:z5y cT.F cT.A 0:=.arc 0 [(97,97,1)] (97,97,1) rfl (by simp) f1
 rw[zsm (F:=cT.F) (A:=cT.A) fun q hq=>?_]
 · rfl
 · match q,hq with
   | 0,_=>exact f0
   | 1,_=>exact f1
   | 2,_=>exact f2
   | n+3,h=>exact absurd h (by simp[cT])
theorem ybu:y8t W0 cT=3:=by
 rw[y8t,y9w]
 kernel_rfl
theorem y16 (τ:Tab):z0w Tryz.prog 17 [] (zhr τ 0) [] (B true):=by
 refine z10 fun H hH=>?_
 have hX0:=hH ((0,700),.glob 1 τ.o0) (by simp)
 have hX1:=hH ((0,701),.glob 2 τ.o1) (by simp)
 have p1:=zqy τ sT (by decide)
 have p2:=zqy τ sB (by decide)
 rw[pT] at p1
 rw[pB] at p2
 have hb:=zne v0 ybj
 rw[y4l] at hb
 have q1:=zj7 eT ybo rfl
 rw[y9p] at q1
 have s1:=zmd (X:=20) W0 (W0.map (z4y v0)) (zh6 W0) yay cT zz7 0
 rw[y51,zAz yb7,yc6] at s1
 have s2:=zbj (X:=20) W0 (W0.map (z4y v0)) (zh6 W0) yay eB2 y90 0
 rw[y20,zAz (show val eB2=0 from rfl),ybl] at s2
 have s3:=zuv (X:=20) W0 (W0.map (z4y v0)) (zh6 W0) yay cT zz7 0
 rw[y8w,zAz yb7,ybu] at s3
 have t1:=zk5 [1,2] [1,2] (by decide)
 have t2:=zk5 [0,2] [0,2] (by decide)
 generalize zh6 W0=rv at *
 generalize W0.map (z4y v0)=C at *
 generalize (v0.map fun x=>loS W0 x)=N0 at *
 refine z08 Tryz.func17 (by kernel_rfl) rfl (by simp) ?_
 dsimp only[Tryz.f17]
 refine z4b 700 0 700 hX0 rfl rfl ?_
 refine z4b 701 0 701 (z0b hX1 (by simp)) rfl rfl ?_
 repeat' (first | (apply z03; (first | refine z5f s3 ?_| refine z5f s2 ?_| refine z5f s1 ?_| refine z5f p2 ?_| refine z5f p1 ?_| (refine z9z rfl (hb _) (by decide) rfl (fun r H' h => ⟨_, _, _, h.1, h.2, rfl, rfl, ?_⟩)) /- z5r -/ | refine z1i q1 ?_| refine z1i t1 ?_| refine z1i t2 ?_)) | refine z05 ?_ | (apply z1b; (refine z0c (y9c rfl) rfl rfl ?_)))
 all_goals try (exfalso;first|omega|(simp at *;done))
 all_goals refine z5l (raw:=.glob 1 τ.o0) 700 0 700 (z0b (z1a _ (0,700) _) (by simp)) ?_
 all_goals refine z5l (raw:=.glob 2 τ.o1) 701 0 701 (z0b (z1a _ (0,701) _) (by simp)) ?_
 all_goals exact z00 Tryz.func17 _ z11 ⟨rfl,z7n hX0 hX1⟩
theorem zl7 (f:Nat→Bool) (n:Nat):(z61 f n).length≤n:=by rw[z61,zA4];exact zkr f n
end Go.Proofs.YtmcggompdmngmaaGreatDoor
