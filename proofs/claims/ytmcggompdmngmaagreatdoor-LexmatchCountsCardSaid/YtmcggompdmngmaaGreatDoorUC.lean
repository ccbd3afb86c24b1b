/- A part of the proof: L30 to L29. -/
import Derived.Test.YtmcggompdmngmaaGreatDoorUc
import Derived.Test.YtmcggompdmngmaaGreatDoorU6
import Derived.Test.YtmcggompdmngmaaGreatDoorUe
import Derived.Test.YtmcggompdmngmaaGreatDoorUz
import Derived.Test.YtmcggompdmngmaaGreatDoorUf
import Derived.Test.YtmcggompdmngmaaGreatDoorUp
import Derived.Test.YtmcggompdmngmaaGreatDoorUv
import Derived.Test.YtmcggompdmngmaaGreatDoorUb
import Derived.Test.YtmcggompdmngmaaGreatDoorUA
import Derived.Test.YtmcggompdmngmaaGreatDoorUo
import Derived.Test.YtmcggompdmngmaaGreatDoorUu
import Derived.Test.YtmcggompdmngmaaGreatDoorU5
import Derived.Test.YtmcggompdmngmaaGreatDoorUB
import Derived.Test.YtmcggompdmngmaaGreatDoorUD
set_option linter.all false
namespace Go.Proofs.YtmcggompdmngmaaGreatDoor
open Go.Ab Go.Ax Go.Rx Go.Lx Go.ChangeShapes Go.WideShapes Go.ChangeAt Go.RowKit
set_option maxHeartbeats 20000000
set_option maxRecDepth 100000
theorem zla {H:Type} {enc:TypeId × Value→H} {W:World} {v:Value} {d:DataW H} {p:List MemPlace} {r:Reach} {b0:Nat} (hsep:∀ g o v,zcn g→W.cell? ⟨g,o,none⟩=some v→∃ z,v=.int .u8 z) (hval:Value.okWide Tryz.prog W r b0 22 v)
 (h:DataW.Trod enc Tryz.prog W 0 (fun _=>true) true 22 v d p):∃ a:List ByteArray,a.length≤9223372036854775807∧DR W zcn (.slice (a.map stc)) v:=by
 obtain⟨ds,h1,_,h2⟩:=zhp hsep (G:=[22,9]) (by kernel_rfl) (by kernel_rfl) (by decide) hval h
 obtain⟨l,rfl,hl,_⟩:=h1.inv_list (e:=9) stc (fun _=>True) (by kernel_rfl) fun x hx=>by
  obtain⟨s,rfl,_⟩:=hx.inv_str (by kernel_rfl)
  exact⟨s,rfl,trivial⟩
 exact⟨l,hl,h2 _ rfl fun fs hs=>by
  have e:Tryz.prog.underlying 22=some (.slice 9):=by kernel_rfl
  rw[e] at hs;simp at hs⟩
theorem ztg {H:Type} {enc:TypeId × Value→H} {W:World} {v:Value} {d:DataW H} {p:List MemPlace} {r:Reach} {b0:Nat} (hsep:∀ g o v,zcn g→W.cell? ⟨g,o,none⟩=some v→∃ z,v=.int .u8 z) (hval:Value.okWide Tryz.prog W r b0 30 v)
 (h:DataW.Trod enc Tryz.prog W 0 (fun _=>true) true 30 v d p):∃ a:List Int,a.length≤9223372036854775807∧DR W zcn (inD a) v:=by
 obtain⟨ds,h1,_,h2⟩:=zhp hsep (G:=[30,3]) (by kernel_rfl) (by kernel_rfl) (by decide) hval h
 obtain⟨l,rfl,hl,_⟩:=h1.inv_list (e:=3) ic (fun _=>True) (by kernel_rfl) fun x hx=>by
  obtain⟨s,rfl,_⟩:=hx.inv_int (k:=.i64) (by kernel_rfl)
  exact⟨s,rfl,trivial⟩
 exact⟨l,hl,h2 _ rfl fun fs hs=>by
  have e:Tryz.prog.underlying 30=some (.slice 3):=by kernel_rfl
  rw[e] at hs;simp at hs⟩
end Go.Proofs.YtmcggompdmngmaaGreatDoor
namespace Go.Proofs.YtmcggompdmngmaaGreatDoor
open Go.Ab Go.Rx Go.Lx Go.Ax
set_option maxHeartbeats 20000000
set_option maxRecDepth 100000
attribute [local irreducible] Run Ops Op1 z15 Val Tr z0d z0y NF Rel z2a z29 z5x
section
variable {X:Nat}
theorem zxw (W:List ByteArray) (C:List Nat) (rv:D) (hl:W.length≤5000) (g:Nat) (bs1:List (Nm × Blk)) (f:ByteArray→Bool) (hf:∀ w∈W,z0y Tryz.prog g ([S w]++[.ptr (1,3) 0]) bs1 [] (B (f w))) (e0:Nat) (H:Hf)
 (hX:H e0 X=some (lexB W C rv)) (hb:∀ (n:Nat) (tm:List (Nat × PV)) (hp:Hp),BkE ⟨n,tm,hp,H⟩ bs1) :
 Ab.Spec Tryz.prog 59 [.ptr (e0,X) 0,.fn (.func g) [] [.ptr (0,3) 0]] H (fun r H'=>r=.v (.d (inD (zkv (fun i=>f (wd W i)) W.length)))∧H'=H):=by
 have hX:H ((e0,X),lexB W C rv).1.1 ((e0,X),lexB W C rv).1.2=some ((e0,X),lexB W C rv).2:=hX
 have hsz:=zi4 (X:=X) W C rv (e0+1)
 have hwo:=fun (i:Nat) (hi:i<W.length)=>ztw (X:=X) W C rv (e0+1) i hi
 have hbX:∀ (n:Nat) (tm:List (Nat × PV)) (hp:Hp),BkE ⟨n,tm,hp,H⟩ [((e0+1,X),lexB W C rv)]:=fun n tm hp=>z09 (m:=(e0+1,X)) hX z4y
 refine z0a Tryz.func59 (by kernel_rfl) rfl (by simp) ?_
 dsimp only[Tryz.f59]
 repeat' (first|(apply z03;(refine z0p hsz (hbX _ _ _) ?_))|refine z05 ?_|fail)
 all_goals try (exfalso;omega)
 refine z1t 5 1000 3 1 rfl rfl rfl ?_
 refine z0j ?_
 refine z01 (z0z (fun z:Nat × List Nat=>⟨29,[(0,.ptr (e0+1,X) 0),(1,.fn (.func g) [] ([.ptr (1,3) 0])),(5,.ref (0,1000)),(10,I .i64 W.length),(11,I .i64 (z.1:Nat))],[(1000,.row 3 1 (z.2.map nmc))],H⟩) (fun z=>z.1≤W.length∧z.2=sel (fun i=>f (wd W i)) z.1) (fun z=>W.length-z.1) ?_ (0,[]) ⟨zAf _,rfl⟩) rfl rfl
 rintro⟨n,out⟩ ⟨i1,i2⟩ ih
 simp only at i1 i2 ih ⊢
 have hol:out.length≤n:=by rw[i2];exact zh7 _ n
 by_cases hlt:n<W.length
 · have hwd:=hwo n hlt
   have hfw:=hf _ (z4l hlt)
   have ih':=ih (n+1,out++if f (wd W n)=true then [n] else []) ⟨by simp only;omega,by simp only;rw[zc2,← i2]⟩ (by simp only;omega)
   simp only at ih'
   clear ih
   generalize wd W n=w at *
   cases hv:f w with
   | true =>
    rw[hv] at hfw ih'
    rw[zAz rfl] at ih'
    repeat' (first|(apply z1q;(refine z4b (g:=nmc) n rfl ?_))|(apply z03;(first|refine zr2 (first:=[]) (cap:=[.ptr (1,3) 0]) (ps:=[S w]) hfw rfl rfl (hb _ _ _) (by decide) ?_|refine z0p hwd (hbX _ _ _) ?_))|refine z05 ?_|refine fk (fun _=>?_) (fun _=>?_))
    all_goals try (exfalso;omega)
    refine z2g 26 1000 ?_
    exact z01 ih' rfl rfl
   | false =>
    rw[hv] at hfw ih'
    rw[zAy (by decide),List.append_nil] at ih'
    repeat' (first|(apply z03;(first|refine zr2 (first:=[]) (cap:=[.ptr (1,3) 0]) (ps:=[S w]) hfw rfl rfl (hb _ _ _) (by decide) ?_|refine z0p hwd (hbX _ _ _) ?_))|refine z05 ?_|refine fk (fun _=>?_) (fun _=>?_))
    all_goals exact zD10
 · obtain rfl:n=W.length:=by omega
   rw[zkv,← i2,zuy]
   clear ih
   refine z10 1000 rfl ?_
   repeat' (first|refine z05 ?_|refine fk (fun _=>?_) (fun _=>?_))
   all_goals try (exfalso;omega)
   all_goals exact z00 Tryz.func59 _ z13 ⟨rfl,rfl⟩
theorem y2a (e:Rx) (hf:fit e) (s:ByteArray) (hs:s.size≤1000000) (e0 m:Nat):z0y Tryz.prog 73 [S s,.ptr (e0,m) 0] [((e0,m),.box ((rxc e).map .d))] [] (B (mtS zjt e s)):=by
 refine z11 fun H hH=>?_
 have hX:=hH ((e0,m),.box ((rxc e).map .d)) (by simp)
 have hm:=zys e hf s hs
 obtain⟨b,hb⟩:∃ b,mtS zjt e s=b:=⟨_,rfl⟩
 rw[hb] at hm ⊢
 refine z0a Tryz.func73 (by kernel_rfl) rfl (by simp) ?_
 dsimp only[Tryz.f73]
 repeat' (first|(apply z0f;(refine z0b (zd0 (m:=(e0+1,m)) (b:=.box ((rxc e).map .d)) (zxr _ _) (z3x e) rfl) rfl (bkN hX) ?_))|(apply z03;(refine z1i hm ?_))|refine z05 ?_|fail)
 all_goals try (exfalso;omega)
 all_goals exact z00 Tryz.func73 _ z13 ⟨rfl,rfl⟩
def y9b (W:List ByteArray) (e:Rx) (f:ByteArray→Bool):PV:=if val e=0 then .tup [.d (inD (zkv (fun i=>f (wd W i)) W.length)),I .i64 0] else .tup [.d (inD []),I .i64 1]
theorem zja (W:List ByteArray) (C:List Nat) (rv:D) (hW:zkz W) (e:Rx) (hf:fit e) (e0:Nat):z0y Tryz.prog 33 [.ptr (e0,X) 0,.d (Drx e)] [((e0,X),lexB W C rv)] [] (y9b W e (mtS zjt e)):=by
 refine z11 fun H hH=>?_
 have hX:=hH ((e0,X),lexB W C rv) (by simp)
 have hva:=z86 e hf
 have hfl:z0y Tryz.prog 59 [.ptr (e0+1,X) 0,.fn (.func 73) [] [.ptr (0,3) 0]] [((0,3),.box ((rxc e).map .d)),((e0+1,X),lexB W C rv)] [] (.d (inD (zkv (fun i=>mtS zjt e (wd W i)) W.length))):=by
  refine z11 fun H hH=>?_
  have hA:=hH ((0,3),.box ((rxc e).map .d)) (by simp)
  have hX:=hH ((e0+1,X),lexB W C rv) (by simp)
  refine zxw W C rv hW.len 73 [((1,3),.box ((rxc e).map .d))] (mtS zjt e) (fun w hw=>y2a e hf w (by have:=hW.size w hw;omega) 1 3) (e0+1) H hX (fun n tm hp=>by simp only[BkE,List.map_cons,List.map_nil,List.cons.injEq,and_true];exact hA)
 rw[y9b]
 generalize zkv (fun i=>mtS zjt e (wd W i)) W.length=R at *
 have hbk:∀ (n:Nat) (tm:List (Nat × PV)) (hp:Hp),Ab.look hp 3=some (.box ((rxc e).map .d))→BkE ⟨n,tm,hp,H⟩ [((0,3),.box ((rxc e).map .d)),((e0+1,X),lexB W C rv)]:=fun n tm hp h3=>by simp[BkE,z3t,push,h3,hX]
 refine z0a Tryz.func33 (by kernel_rfl) rfl (by simp) ?_
 dsimp only[Tryz.f33]
 by_cases h0:val e=0
 · rw[h0] at hva
   rw[zAz h0]
   repeat' (first|(apply z16;(refine zbp rfl rfl (by decide) ?_))|(apply z0f;(refine z0b (zd0 (m:=(0,3)) (b:=.box ((rxc e).map .d)) rfl (z3x e) rfl) rfl rfl ?_))|(apply z03;(first|refine z8o hfl rfl (hbk _ _ _ rfl) (by decide) ?_|refine z1i hva ?_))|refine z05 ?_|fail)
   all_goals try (exfalso;omega)
   all_goals exact z00 Tryz.func33 _ z0s ⟨rfl,rfl⟩
 · rw[zAy h0]
   generalize val e=v at *
   repeat' (first|(apply z0f;(refine z0b (zd0 (m:=(0,3)) (b:=.box ((rxc e).map .d)) rfl (z3x e) rfl) rfl rfl ?_))|(apply z03;(refine z1i hva ?_))|refine z05 ?_|refine fk (fun _=>?_) (fun _=>?_))
   all_goals try (exfalso;omega)
   all_goals refine zgm 4 rfl ?_
   all_goals exact z00 Tryz.func33 _ z0s ⟨rfl,rfl⟩
end
theorem zwz {v:List ByteArray} (h:zfh v):zkz (wds v) :=
 ⟨z7o v,by have:=h.few;omega,fun w hw=>h.vld w ((z8v v w).1 hw),fun w hw=>by have:=h.size w ((z8v v w).1 hw);omega⟩
abbrev sT:ByteArray:=⟨#[97,46,42]⟩
abbrev sB:ByteArray:=⟨#[97,98]⟩
abbrev eT:Rx:=.mk 2 0 0 [] [.mk 1 0 0 [(97,97)] [],.mk 4 0 (-1) [] [.mk 1 0 0 [(0,1114111)] []]]
abbrev eB2:Rx:=.mk 2 0 0 [] [.mk 1 0 0 [(97,97)] [],.mk 1 0 0 [(98,98)] []]
abbrev cT:Au:=⟨[false,true,true],[[(97,97,1)],[(0,1114111,2)],[(0,1114111,2)]]⟩
abbrev v0:List ByteArray:=[⟨#[98]⟩,⟨#[65,98]⟩,⟨#[97,98]⟩,⟨#[97]⟩]
abbrev W0:List ByteArray:=[⟨#[65,98]⟩,⟨#[97]⟩,⟨#[97,98]⟩,⟨#[98]⟩]
theorem y2s:wds v0=W0:=by kernel_rfl
theorem pT:zdx sT=(eT,0,0):=by kernel_rfl
theorem pB:zdx sB=(eB2,0,0):=by kernel_rfl
theorem yak:zfh v0:=⟨by decide,by rw[y2s];decide,by decide,fun w hw=>by
 have h:v0.all z8q=true:=by kernel_rfl
 exact List.all_eq_true.1 h w hw⟩
theorem yac:zkz W0:=by rw[← y2s];exact zwz yak
theorem ybh:fit eT:=by simp[fit,zt4]
theorem y9v:fit eB2:=by simp[fit,zt4]
theorem bdT:bd eT tb0=(⟨[[(97,97)],[(0,1114111)]],[2,2]⟩,⟨1,3,false⟩):=by rfl
theorem yab:zry eT=some cT:=by
 rw[zry,zxq]
 simp only[y16,bdT]
 kernel_rfl
theorem yau:vAu cT=0:=by kernel_rfl
theorem zza:zp7 cT:=⟨by decide,by decide,by decide⟩
theorem yb2:zkv (fun i=>cT.acc 0 (Go.Rx.z2i (wd W0 i))) W0.length=[1,2]:=by kernel_rfl
theorem yb5:zkv (fun i=>mtS zjt eB2 (wd W0 i)) W0.length=[0,2]:=by kernel_rfl
theorem ya1:z5h cT.F cT.A=[true,true,true]:=by
 have f1:z5c cT.F cT.A 1:=.fin 1 rfl
 have f2:z5c cT.F cT.A 2:=.fin 2 rfl
 have f0:z5c cT.F cT.A 0:=.arc 0 [(97,97,1)] (97,97,1) rfl (by simp) f1
 rw[zq6 (F:=cT.F) (A:=cT.A) fun q hq=>?_]
 · rfl
 · match q,hq with
   | 0,_=>exact f0
   | 1,_=>exact f1
   | 2,_=>exact f2
   | n+3,h=>exact absurd h (by simp[cT])
theorem yb9:zyg W0 cT=3:=by
 rw[zyg,ya1]
 kernel_rfl
theorem zgi (τ:Tab):z0y Tryz.prog 17 [] (zew τ 0) [] (B true):=by
 refine z11 fun H hH=>?_
 have hX0:=hH ((0,700),.glob 1 τ.o0) (by simp)
 have hX1:=hH ((0,701),.glob 2 τ.o1) (by simp)
 have p1:=zu0 τ sT (by decide)
 have p2:=zu0 τ sB (by decide)
 rw[pT] at p1
 rw[pB] at p2
 have hb:=znf v0 yak
 rw[y2s] at hb
 have q1:=zrn eT ybh rfl
 rw[yab] at q1
 have s1:=zfu (X:=20) W0 (W0.map (z4t v0)) (zg1 W0) yac cT zza 0
 rw[zxs,zAz yau,yb2] at s1
 have s2:=zja (X:=20) W0 (W0.map (z4t v0)) (zg1 W0) yac eB2 y9v 0
 rw[y9b,zAz (show val eB2=0 from rfl),yb5] at s2
 have s3:=zna (X:=20) W0 (W0.map (z4t v0)) (zg1 W0) yac cT zza 0
 rw[zrp,zAz yau,yb9] at s3
 have t1:=zka [1,2] [1,2] (by decide)
 have t2:=zka [0,2] [0,2] (by decide)
 generalize zg1 W0=rv at *
 generalize W0.map (z4t v0)=C at *
 generalize (v0.map fun x=>loS W0 x)=N0 at *
 refine z0a Tryz.func17 (by kernel_rfl) rfl (by simp) ?_
 dsimp only[Tryz.f17]
 refine z3j 700 0 700 hX0 rfl rfl ?_
 refine z3j 701 0 701 (z07 hX1 (by simp)) rfl rfl ?_
 repeat' (first | (apply z03; (first | refine z6f s3 ?_| refine z6f s2 ?_| refine z6f s1 ?_| refine z6f p2 ?_| refine z6f p1 ?_| (refine z63 rfl (hb _) (by decide) rfl (fun r H' h => ⟨_, _, _, h.1, h.2, rfl, rfl, ?_⟩)) /- z4x -/ | refine z1i q1 ?_| refine z1i t1 ?_| refine z1i t2 ?_)) | refine z05 ?_ | (apply z16; (refine z0b (y9y rfl) rfl rfl ?_)))
 all_goals try (exfalso;first|omega|(simp at *;done))
 all_goals refine z3k (raw:=.glob 1 τ.o0) 700 0 700 (z07 (z0u _ (0,700) _) (by simp)) ?_
 all_goals refine z3k (raw:=.glob 2 τ.o1) 701 0 701 (z07 (z0u _ (0,701) _) (by simp)) ?_
 all_goals exact z00 Tryz.func17 _ z13 ⟨rfl,z3e hX0 hX1⟩
def y4s (a:Au):Bool:=decide (30<a.F.length)||decide (30<a.A.length)
theorem zz1 (a:Au) (hf:zp7 a):z0d Tryz.prog 12 [.d (auD a)] (B (y4s a)):=by
 refine z14 fun H=>?_
 obtain⟨F,A⟩:=a
 obtain⟨f1,f2,f3⟩:=hf
 simp only at f1 f2
 refine z0a Tryz.func12 (by kernel_rfl) rfl (by simp) ?_
 dsimp only[Tryz.f12]
 rw[y4s]
 simp only
 have hx:∀ n:Nat,(⟨F,A⟩:Au).F.length=n→F.length=n:=fun n h=>h
 by_cases h1:30<F.length
 · rw[zAi h1,Bool.true_or]
   repeat' (first|(apply z1v;(refine z0e z4a ?_))|refine z05 ?_|refine fk (fun _=>?_) (fun _=>?_))
   all_goals try (exfalso;dsimp only at *;omega)
   all_goals exact z00 Tryz.func12 _ z13 ⟨rfl,rfl⟩
 · rw[zAo h1,Bool.false_or]
   repeat' (first|(apply z1v;(refine z0e z4a ?_))|refine z05 ?_|refine fk (fun _=>?_) (fun _=>?_))
   all_goals try (exfalso;dsimp only at *;omega)
   all_goals exact z00 Tryz.func12 _ z13 ⟨congrArg (fun b=>RV.v (B b)) (decide_eq_decide.2 (by dsimp only;omega)),rfl⟩
noncomputable def seL (W:List ByteArray) (a:Au):List Int:=if vAu a=0 then zkv (fun i=>a.acc 0 (Go.Rx.z2i (wd W i))) W.length else []
noncomputable def seE (a:Au):Int:=if vAu a=0 then 0 else 1
theorem zxl (f:Nat→Bool) (n:Nat):(zkv f n).length≤n:=by rw[zkv,zA4];exact zh7 f n
theorem zts (W:List ByteArray) (a:Au):zxs W a=.tup [.d (inD (seL W a)),I .i64 (seE a)]:=by
 rw[zxs,seL,seE]
 split <;> rfl
theorem zs6 (W:List ByteArray) (a:Au):(seL W a).length≤W.length:=by
 rw[seL]
 split
 · exact zxl _ _
 · simp
theorem zrc (τ:Tab) (v:List ByteArray) (hv:v.length≤9223372036854775807) (a:Au) (hf:zp7 a):z0y Tryz.prog 3 [.d (.slice (v.map stc)),.d (auD a)] (zew τ 0) [] (B true):=by
 refine z11 fun H hH=>?_
 have hX0:=hH ((0,700),.glob 1 τ.o0) (by simp)
 have hX1:=hH ((0,701),.glob 2 τ.o1) (by simp)
 have haw:=zgi τ
 have hlo:=zsw v hv
 have hwi:=zz1 a hf
 refine z0a Tryz.func3 (by kernel_rfl) rfl (by simp) ?_
 dsimp only[Tryz.f3]
 refine z3j 700 0 700 hX0 rfl rfl ?_
 refine z3j 701 0 701 (z07 hX1 (by simp)) rfl rfl ?_
 by_cases hl:zpg v=true∨y4s a=true
 · generalize zpg v=b1 at *
   generalize y4s a=b2 at *
   obtain⟨F,A⟩:=a
   cases b1 with
   | true =>
    repeat' (first|(apply z03;(refine z1i hlo ?_))|(apply z1v;(refine z0e z4a ?_))|refine z05 ?_|fail)
    all_goals exact zD40
   | false =>
    cases b2 with
    | false=>exact absurd hl (by simp)
    | true =>
     repeat' (first|(apply z03;(first|refine z1i hlo ?_| refine z1i hwi ?_))|(apply z1v;(refine z0e z4a ?_))|refine z05 ?_|fail)
     all_goals exact zD40
 rw[not_or,Bool.not_eq_true,Bool.not_eq_true] at hl
 obtain⟨hl1,hl2⟩:=hl
 have hok:=(zsp hl1).2
 have he:zet v=0:=by
  exact zD116
 have hb:=zk8 v hok he
 have hW:=zwz hok
 have s1:=zfu (X:=20) (wds v) ((wds v).map (z4t v)) (zg1 (wds v)) hW a hf 0
 have s2:=ztj (wds v) (.slice (((wds v).map (z4t v)).map nmc)) hW a hf
 have hsl:=zs6 (wds v) a
 have hWl:=hW.len
 rw[zts] at s1 s2
 rw[zkq] at hb
 generalize seL (wds v) a=R at *
 generalize seE a=E at *
 have t1:=zka R R (by omega)
 rw[zAi rfl] at t1
 rw[hl1] at hlo
 rw[hl2] at hwi
 generalize zg1 (wds v)=rv at *
 generalize (wds v).map (z4t v)=C at *
 generalize wds v=W at *
 obtain⟨F,A⟩:=a
 repeat' (first | (apply z03; (first | refine z6f haw ?_| refine z6f s1 ?_| refine z1i hlo ?_| refine z1i hwi ?_| (refine z63 rfl (hb _) (by decide) rfl (fun r H' h => ⟨_, _, _, h.1, h.2, rfl, rfl, ?_⟩)) /- z4x -/ | refine z1i s2 ?_| refine z1i t1 ?_)) | (apply z1p; (refine z0e z3r ?_)) | (apply z1v; (refine z0e z4a ?_)) | refine z05 ?_ | refine fk (fun _ => ?_) (fun _ => ?_))
 all_goals exact zD40
theorem zuu (τ:Tab) (v:List ByteArray) (hv:v.length≤9223372036854775807) (a:Au) (hf:zp7 a):z0y Tryz.prog 4 [.d (.slice (v.map stc)),.d (auD a)] (zew τ 0) [] (B true):=by
 refine z11 fun H hH=>?_
 have hX0:=hH ((0,700),.glob 1 τ.o0) (by simp)
 have hX1:=hH ((0,701),.glob 2 τ.o1) (by simp)
 have haw:=zgi τ
 have hlo:=zsw v hv
 have hwi:=zz1 a hf
 refine z0a Tryz.func4 (by kernel_rfl) rfl (by simp) ?_
 dsimp only[Tryz.f4]
 refine z3j 700 0 700 hX0 rfl rfl ?_
 refine z3j 701 0 701 (z07 hX1 (by simp)) rfl rfl ?_
 by_cases hl:zpg v=true∨y4s a=true
 · generalize zpg v=b1 at *
   generalize y4s a=b2 at *
   obtain⟨F,A⟩:=a
   cases b1 with
   | true =>
    repeat' (first|(apply z03;(refine z1i hlo ?_))|(apply z1v;(refine z0e z4a ?_))|refine z05 ?_|fail)
    all_goals exact zD28
   | false =>
    cases b2 with
    | false=>exact absurd hl (by simp)
    | true =>
     repeat' (first|(apply z03;(first|refine z1i hlo ?_| refine z1i hwi ?_))|(apply z1v;(refine z0e z4a ?_))|refine z05 ?_|fail)
     all_goals exact zD28
 rw[not_or,Bool.not_eq_true,Bool.not_eq_true] at hl
 obtain⟨hl1,hl2⟩:=hl
 have hok:=(zsp hl1).2
 have he:zet v=0:=by
  exact zD116
 have hb:=zk8 v hok he
 have hW:=zwz hok
 have s3:=zna (X:=22) (wds v) ((wds v).map (z4t v)) (zg1 (wds v)) hW a hf 0
 have s4:=zta (wds v) (.slice (((wds v).map (z4t v)).map nmc)) hW (z7o v) a hf
 have s1:=zfu (X:=22) (wds v) ((wds v).map (z4t v)) (zg1 (wds v)) hW a hf 0
 have s5:=zc4 a hf
 have hsl:=zs6 (wds v) a
 have hWl:=hW.len
 have hvs:vAu a=0→((seL (wds v) a).length:Int)≤zyg (wds v) a:=fun h0=>by
  rw[seL,zAz h0,zyg]
  have hno:=zlc (zus h0)
  have:=y3l hno (W:=wds v) (z7o v) hW.vld
  rw[zkv,zA4]
  split
  · rename_i hz
    rcases hz with hz|hz
    · rw[hz];simp[sel]
    · have:sel (fun i=>a.acc 0 (Go.Rx.z2i (wd (wds v) i))) (wds v).length=[]:=by
       rw[z9q (f:=fun i=>a.acc 0 (Go.Rx.z2i (wd (wds v) i))) (n:=0) (zAf _) fun i _ _=>hno 0 hz _];rfl
      rw[this];simp
  · omega
 have hvE:vAu a=0→zrp (wds v) a=.tup [I .i64 (zyg (wds v) a),I .i64 0]:=fun h0=>by rw[zrp,zAz h0]
 have hvN:vAu a≠0→zrp (wds v) a=.tup [I .i64 0,I .i64 1]:=fun h0=>by rw[zrp,zAy h0]
 rw[zts] at s1
 rw[zkq] at hb
 generalize seL (wds v) a=R at *
 generalize seE a=E at *
 rw[hl1] at hlo
 rw[hl2] at hwi
 generalize zyg (wds v) a=N at *
 generalize zg1 (wds v)=rv at *
 generalize (wds v).map (z4t v)=C at *
 generalize hWe:wds v=W at *
 by_cases h0:vAu a=0
 · rw[hvE h0] at s3 s4
   rw[h0] at s5
   have hvs':=hvs h0
   exact zD48
 · rw[hvN h0] at s3 s4
   generalize vAu a=va at *
   exact zD48
theorem zmt:∀ (l:List Int) (p:Option Int) (o:List (Int × Int)),(zhs p o l).1.length≤o.length+l.length
 | [],p,o=>by simp[zhs]
 | k::l,p,o=>by
  rw[zhs]
  split
  · simp
  · split
    · simp
    · have h1:=zmt l (some k) (zzo o k)
      have h2:=zvv o k
      rw[zAk];omega
theorem ztz (τ:Tab) (l:List Int) (hl:l.length≤9223372036854775807):z0y Tryz.prog 6 [.d (inD l)] (zew τ 0) [] (B true):=by
 refine z11 fun H hH=>?_
 have hX0:=hH ((0,700),.glob 1 τ.o0) (by simp)
 have hX1:=hH ((0,701),.glob 2 τ.o1) (by simp)
 have haw:=zgi τ
 refine z0a Tryz.func6 (by kernel_rfl) rfl (by simp) ?_
 dsimp only[Tryz.f6]
 refine z3j 700 0 700 hX0 rfl rfl ?_
 refine z3j 701 0 701 (z07 hX1 (by simp)) rfl rfl ?_
 by_cases h100:100<l.length
 · repeat' (first|refine z05 ?_|refine fk (fun _=>?_) (fun _=>?_))
   all_goals exact zD84
 · have s1:=zuv l (by omega)
   have s2:=zuc l (by omega)
   have hln:=zmt l none []
   rw[spR] at s1 s2
   generalize (zhs none [] l).1=o at *
   generalize (zhs none [] l).2=e at *
   rw[List.length_nil] at hln
   have s3:=y3e o (by omega)
   repeat' (first|(apply z03;(first|refine z6f haw ?_| refine z1i s1 ?_| refine z1i s2 ?_| refine z1i s3 ?_))|refine z05 ?_|refine fk (fun _=>?_) (fun _=>?_))
   all_goals exact zD84
theorem zs3 (τ:Tab) (v:List ByteArray) (hv:v.length≤9223372036854775807) (l:List Int) (hll:l.length≤9223372036854775807):z0y Tryz.prog 7 [.d (.slice (v.map stc)),.d (inD l)] (zew τ 0) [] (B true):=by
 refine z11 fun H hH=>?_
 have hX0:=hH ((0,700),.glob 1 τ.o0) (by simp)
 have hX1:=hH ((0,701),.glob 2 τ.o1) (by simp)
 have haw:=zgi τ
 have hlo:=zsw v hv
 refine z0a Tryz.func7 (by kernel_rfl) rfl (by simp) ?_
 dsimp only[Tryz.f7]
 refine z3j 700 0 700 hX0 rfl rfl ?_
 refine z3j 701 0 701 (z07 hX1 (by simp)) rfl rfl ?_
 by_cases hl:zpg v=true∨50<l.length
 · generalize zpg v=b1 at *
   cases b1
   all_goals repeat' (first|(apply z03;(refine z1i hlo ?_))|refine z05 ?_|refine fk (fun _=>?_) (fun _=>?_))
   all_goals try (exfalso;first|omega|(simp at *;done)|(simp at *;omega))
   all_goals exact zD104
 · rw[not_or,Bool.not_eq_true] at hl
   obtain⟨hl1,hl2⟩:=hl
   have hok:=(zsp hl1).2
   have he:zet v=0:=by
    exact zD116
   have hb:=zk8 v hok he
   have hW:=zwz hok
   have hWl:=hW.len
   have s1:=y1m (X:=21) (wds v) ((wds v).map (z4t v)) (zg1 (wds v)) (by simp) (by omega) l (by omega) 0
   have s2:=zw8 (wds v) ((wds v).map (z4t v)) (by simp) (by omega) l (by omega)
   rw[zkq] at hb
   rw[hl1] at hlo
   rw[y84] at s1 s2
   generalize zg1 (wds v)=rv at *
   generalize (wds v).map (z4t v)=C at *
   generalize (cnR C none 0 l).1=r1 at *
   generalize (cnR C none 0 l).2=r2 at *
   generalize wds v=W at *
   repeat' (first | (apply z03; (first | refine z6f haw ?_| refine z6f s1 ?_| refine z1i hlo ?_| (refine z63 rfl (hb _) (by decide) rfl (fun r H' h => ⟨_, _, _, h.1, h.2, rfl, rfl, ?_⟩)) /- z4x -/ | refine z1i s2 ?_)) | (apply z1p; (refine z0e z3r ?_)) | refine z05 ?_ | refine fk (fun _ => ?_) (fun _ => ?_))
   all_goals try (exfalso;first|omega|(simp at *;done))
   all_goals exact zD104
end Go.Proofs.YtmcggompdmngmaaGreatDoor
