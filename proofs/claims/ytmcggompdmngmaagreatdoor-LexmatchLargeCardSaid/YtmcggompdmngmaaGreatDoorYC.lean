/- A part of the proof: L30 to L27. -/
import Derived.Test.YtmcggompdmngmaaGreatDoorYc
import Derived.Test.YtmcggompdmngmaaGreatDoorY6
import Derived.Test.YtmcggompdmngmaaGreatDoorYz
import Derived.Test.YtmcggompdmngmaaGreatDoorYe
import Derived.Test.YtmcggompdmngmaaGreatDoorYf
import Derived.Test.YtmcggompdmngmaaGreatDoorYp
import Derived.Test.YtmcggompdmngmaaGreatDoorYv
import Derived.Test.YtmcggompdmngmaaGreatDoorYb
import Derived.Test.YtmcggompdmngmaaGreatDoorYA
import Derived.Test.YtmcggompdmngmaaGreatDoorYo
import Derived.Test.YtmcggompdmngmaaGreatDoorY5
import Derived.Test.YtmcggompdmngmaaGreatDoorY8
import Derived.Test.YtmcggompdmngmaaGreatDoorY1
import Derived.Test.YtmcggompdmngmaaGreatDoorYr
set_option linter.all false
namespace Go.Proofs.YtmcggompdmngmaaGreatDoor
open Go.Ab Go.Ax Go.Rx Go.Lx Go.ChangeShapes Go.WideShapes Go.ChangeAt Go.RowKit
set_option maxHeartbeats 20000000
set_option maxRecDepth 100000
theorem y4h {H:Type} {enc:TypeId × Value→H} {W:World} {v:Value} {d:DataW H} {p:List MemPlace} {r:Reach} {b0:Nat} (hsep:∀ g o v,zsb g→W.cell? ⟨g,o,none⟩=some v→∃ z,v=.int .u8 z) (hval:Value.okWide Tryz.prog W r b0 22 v)
 (h:DataW.Trod enc Tryz.prog W 0 (fun _=>true) true 22 v d p):∃ a:List ByteArray,a.length≤9223372036854775807∧DR W zsb (.slice (a.map stc)) v:=by
 obtain⟨ds,h1,_,h2⟩:=zyk hsep (G:=[22,9]) (by kernel_rfl) (by kernel_rfl) (by decide) hval h
 obtain⟨l,rfl,hl,_⟩:=h1.inv_list (e:=9) stc (fun _=>True) (by kernel_rfl) fun x hx=>by
  obtain⟨s,rfl,_⟩:=hx.inv_str (by kernel_rfl)
  exact⟨s,rfl,trivial⟩
 exact⟨l,hl,h2 _ rfl fun fs hs=>by
  have e:Tryz.prog.underlying 22=some (.slice 9):=by kernel_rfl
  rw[e] at hs;simp at hs⟩
end Go.Proofs.YtmcggompdmngmaaGreatDoor
namespace Go.Proofs.YtmcggompdmngmaaGreatDoor
open Go.Ab Go.Rx Go.Lx Go.Ax
set_option maxHeartbeats 20000000
set_option maxRecDepth 100000
attribute [local irreducible] Run Ops Op1 z0u Val Tr z09 z0q NF Rel z1v z1u z5p
section
variable {X:Nat}
theorem zo0 (W:List ByteArray) (C:List Nat) (rv:D) (hl:W.length≤5000) (g:Nat) (bs1:List (Nm × Blk)) (f:ByteArray→Bool) (hf:∀ w∈W,z0q Tryz.prog g ([S w]++[.ptr (1,3) 0]) bs1 [] (B (f w))) (e0:Nat) (H:Hf)
 (hX:H e0 X=some (lexB W C rv)) (hb:∀ (n:Nat) (tm:List (Nat × PV)) (hp:Hp),BkE ⟨n,tm,hp,H⟩ bs1) :
 Ab.Spec Tryz.prog 59 [.ptr (e0,X) 0,.fn (.func g) [] [.ptr (0,3) 0]] H (fun r H'=>r=.v (.d (inD (zfe (fun i=>f (wd W i)) W.length)))∧H'=H):=by
 have hX:H ((e0,X),lexB W C rv).1.1 ((e0,X),lexB W C rv).1.2=some ((e0,X),lexB W C rv).2:=hX
 have hsz:=zlr (X:=X) W C rv (e0+1)
 have hwo:=fun (i:Nat) (hi:i<W.length)=>zsw (X:=X) W C rv (e0+1) i hi
 have hbX:∀ (n:Nat) (tm:List (Nat × PV)) (hp:Hp),BkE ⟨n,tm,hp,H⟩ [((e0+1,X),lexB W C rv)]:=fun n tm hp=>z1m (m:=(e0+1,X)) hX z5c
 refine z06 Tryz.func59 (by kernel_rfl) rfl (by simp) ?_
 dsimp only[Tryz.f59]
 repeat' (first|(apply z03;(refine z3k hsz (hbX _ _ _) ?_))|refine z01 ?_|fail)
 all_goals try (exfalso;omega)
 refine z2v 5 1000 3 1 rfl rfl rfl ?_
 refine z0d ?_
 refine z00 (z0p (fun z:Nat × List Nat=>⟨29,[(0,.ptr (e0+1,X) 0),(1,.fn (.func g) [] ([.ptr (1,3) 0])),(5,.ref (0,1000)),(10,I .i64 W.length),(11,I .i64 (z.1:Nat))],[(1000,.row 3 1 (z.2.map nmc))],H⟩) (fun z=>z.1≤W.length∧z.2=sel (fun i=>f (wd W i)) z.1) (fun z=>W.length-z.1) ?_ (0,[]) ⟨zAf _,rfl⟩) rfl rfl
 rintro⟨n,out⟩ ⟨i1,i2⟩ ih
 simp only at i1 i2 ih ⊢
 have hol:out.length≤n:=by rw[i2];exact zfu _ n
 by_cases hlt:n<W.length
 · have hwd:=hwo n hlt
   have hfw:=hf _ (z8i hlt)
   have ih':=ih (n+1,out++if f (wd W n)=true then [n] else []) ⟨by simp only;omega,by simp only;rw[z9h,← i2]⟩ (by simp only;omega)
   simp only at ih'
   clear ih
   generalize wd W n=w at *
   cases hv:f w with
   | true =>
    rw[hv] at hfw ih'
    rw[zAz rfl] at ih'
    repeat' (first|(apply z1k;(refine z6p (g:=nmc) n rfl ?_))|(apply z03;(first|refine zr0 (first:=[]) (cap:=[.ptr (1,3) 0]) (ps:=[S w]) hfw rfl rfl (hb _ _ _) (by decide) ?_|refine z3k hwd (hbX _ _ _) ?_))|refine z01 ?_|refine fk (fun _=>?_) (fun _=>?_))
    all_goals try (exfalso;omega)
    refine z2y 26 1000 ?_
    exact z00 ih' rfl rfl
   | false =>
    rw[hv] at hfw ih'
    rw[zAy (by decide),List.append_nil] at ih'
    repeat' (first|(apply z03;(first|refine zr0 (first:=[]) (cap:=[.ptr (1,3) 0]) (ps:=[S w]) hfw rfl rfl (hb _ _ _) (by decide) ?_|refine z3k hwd (hbX _ _ _) ?_))|refine z01 ?_|refine fk (fun _=>?_) (fun _=>?_))
    all_goals exact zD8
 · obtain rfl:n=W.length:=by omega
   rw[zfe,← i2,zqp]
   clear ih
   refine z0z 1000 rfl ?_
   repeat' (first|refine z01 ?_|refine fk (fun _=>?_) (fun _=>?_))
   all_goals try (exfalso;omega)
   all_goals exact z02 Tryz.func59 _ z1d ⟨rfl,rfl⟩
theorem y34 (e:Rx) (hf:fit e) (s:ByteArray) (hs:s.size≤1000000) (e0 m:Nat):z0q Tryz.prog 60 [S s,.ptr (e0,m) 0] [((e0,m),.box ((rxc e).map .d))] [] (B (mtS (fun c=>[c]) e s)):=by
 refine z0v fun H hH=>?_
 have hX:=hH ((e0,m),.box ((rxc e).map .d)) (by simp)
 have hm:=znd e hf s hs
 obtain⟨b,hb⟩:∃ b,mtS (fun c=>[c]) e s=b:=⟨_,rfl⟩
 rw[hb] at hm ⊢
 refine z06 Tryz.func60 (by kernel_rfl) rfl (by simp) ?_
 dsimp only[Tryz.f60]
 repeat' (first|(apply z13;(refine z08 (z7j (m:=(e0+1,m)) (b:=.box ((rxc e).map .d)) (zms _ _) (z6m e) rfl) rfl (bkN hX) ?_))|(apply z03;(refine z1n hm ?_))|refine z01 ?_|fail)
 all_goals try (exfalso;omega)
 all_goals exact z02 Tryz.func60 _ z1d ⟨rfl,rfl⟩
theorem y5g (e:Rx) (hf:fit e) (s:ByteArray) (hs:s.size≤1000000) (e0 m:Nat):z0q Tryz.prog 73 [S s,.ptr (e0,m) 0] [((e0,m),.box ((rxc e).map .d))] [] (B (mtS zjm e s)):=by
 refine z0v fun H hH=>?_
 have hX:=hH ((e0,m),.box ((rxc e).map .d)) (by simp)
 have hm:=zvn e hf s hs
 obtain⟨b,hb⟩:∃ b,mtS zjm e s=b:=⟨_,rfl⟩
 rw[hb] at hm ⊢
 refine z06 Tryz.func73 (by kernel_rfl) rfl (by simp) ?_
 dsimp only[Tryz.f73]
 repeat' (first|(apply z13;(refine z08 (z7j (m:=(e0+1,m)) (b:=.box ((rxc e).map .d)) (zms _ _) (z6m e) rfl) rfl (bkN hX) ?_))|(apply z03;(refine z1n hm ?_))|refine z01 ?_|fail)
 all_goals try (exfalso;omega)
 all_goals exact z02 Tryz.func73 _ z1d ⟨rfl,rfl⟩
def y62 (W:List ByteArray) (e:Rx) (f:ByteArray→Bool):PV:=if val e=0 then .tup [.d (inD (zfe (fun i=>f (wd W i)) W.length)),I .i64 0] else .tup [.d (inD []),I .i64 1]
theorem zol (W:List ByteArray) (C:List Nat) (rv:D) (hW:zkr W) (e:Rx) (hf:fit e) (e0:Nat):z0q Tryz.prog 22 [.ptr (e0,X) 0,.d (Drx e)] [((e0,X),lexB W C rv)] [] (y62 W e (mtS (fun c=>[c]) e)):=by
 refine z0v fun H hH=>?_
 have hX:=hH ((e0,X),lexB W C rv) (by simp)
 have hva:=z61 e hf
 have hfl:z0q Tryz.prog 59 [.ptr (e0+1,X) 0,.fn (.func 60) [] [.ptr (0,3) 0]] [((0,3),.box ((rxc e).map .d)),((e0+1,X),lexB W C rv)] [] (.d (inD (zfe (fun i=>mtS (fun c=>[c]) e (wd W i)) W.length))):=by
  refine z0v fun H hH=>?_
  have hA:=hH ((0,3),.box ((rxc e).map .d)) (by simp)
  have hX:=hH ((e0+1,X),lexB W C rv) (by simp)
  refine zo0 W C rv hW.len 60 [((1,3),.box ((rxc e).map .d))] (mtS (fun c=>[c]) e) (fun w hw=>y34 e hf w (by have:=hW.size w hw;omega) 1 3) (e0+1) H hX (fun n tm hp=>by simp only[BkE,List.map_cons,List.map_nil,List.cons.injEq,and_true];exact hA)
 rw[y62]
 generalize zfe (fun i=>mtS (fun c=>[c]) e (wd W i)) W.length=R at *
 have hbk:∀ (n:Nat) (tm:List (Nat × PV)) (hp:Hp),Ab.look hp 3=some (.box ((rxc e).map .d))→BkE ⟨n,tm,hp,H⟩ [((0,3),.box ((rxc e).map .d)),((e0+1,X),lexB W C rv)]:=fun n tm hp h3=>by simp[BkE,z3m,push,h3,hX]
 refine z06 Tryz.func22 (by kernel_rfl) rfl (by simp) ?_
 dsimp only[Tryz.f22]
 by_cases h0:val e=0
 · rw[h0] at hva
   rw[zAz h0]
   repeat' (first|(apply z10;(refine z9x rfl rfl (by decide) ?_))|(apply z13;(refine z08 (z7j (m:=(0,3)) (b:=.box ((rxc e).map .d)) rfl (z6m e) rfl) rfl rfl ?_))|(apply z03;(first|refine z71 hfl rfl (hbk _ _ _ rfl) (by decide) ?_|refine z1n hva ?_))|refine z01 ?_|fail)
   all_goals try (exfalso;omega)
   all_goals exact z02 Tryz.func22 _ z2j ⟨rfl,rfl⟩
 · rw[zAy h0]
   generalize val e=v at *
   repeat' (first|(apply z13;(refine z08 (z7j (m:=(0,3)) (b:=.box ((rxc e).map .d)) rfl (z6m e) rfl) rfl rfl ?_))|(apply z03;(refine z1n hva ?_))|refine z01 ?_|refine fk (fun _=>?_) (fun _=>?_))
   all_goals try (exfalso;omega)
   all_goals refine y43 4 rfl ?_
   all_goals exact z02 Tryz.func22 _ z2j ⟨rfl,rfl⟩
theorem zje (W:List ByteArray) (C:List Nat) (rv:D) (hW:zkr W) (e:Rx) (hf:fit e) (e0:Nat):z0q Tryz.prog 33 [.ptr (e0,X) 0,.d (Drx e)] [((e0,X),lexB W C rv)] [] (y62 W e (mtS zjm e)):=by
 refine z0v fun H hH=>?_
 have hX:=hH ((e0,X),lexB W C rv) (by simp)
 have hva:=z61 e hf
 have hfl:z0q Tryz.prog 59 [.ptr (e0+1,X) 0,.fn (.func 73) [] [.ptr (0,3) 0]] [((0,3),.box ((rxc e).map .d)),((e0+1,X),lexB W C rv)] [] (.d (inD (zfe (fun i=>mtS zjm e (wd W i)) W.length))):=by
  refine z0v fun H hH=>?_
  have hA:=hH ((0,3),.box ((rxc e).map .d)) (by simp)
  have hX:=hH ((e0+1,X),lexB W C rv) (by simp)
  refine zo0 W C rv hW.len 73 [((1,3),.box ((rxc e).map .d))] (mtS zjm e) (fun w hw=>y5g e hf w (by have:=hW.size w hw;omega) 1 3) (e0+1) H hX (fun n tm hp=>by simp only[BkE,List.map_cons,List.map_nil,List.cons.injEq,and_true];exact hA)
 rw[y62]
 generalize zfe (fun i=>mtS zjm e (wd W i)) W.length=R at *
 have hbk:∀ (n:Nat) (tm:List (Nat × PV)) (hp:Hp),Ab.look hp 3=some (.box ((rxc e).map .d))→BkE ⟨n,tm,hp,H⟩ [((0,3),.box ((rxc e).map .d)),((e0+1,X),lexB W C rv)]:=fun n tm hp h3=>by simp[BkE,z3m,push,h3,hX]
 refine z06 Tryz.func33 (by kernel_rfl) rfl (by simp) ?_
 dsimp only[Tryz.f33]
 by_cases h0:val e=0
 · rw[h0] at hva
   rw[zAz h0]
   repeat' (first|(apply z10;(refine z9x rfl rfl (by decide) ?_))|(apply z13;(refine z08 (z7j (m:=(0,3)) (b:=.box ((rxc e).map .d)) rfl (z6m e) rfl) rfl rfl ?_))|(apply z03;(first|refine z71 hfl rfl (hbk _ _ _ rfl) (by decide) ?_|refine z1n hva ?_))|refine z01 ?_|fail)
   all_goals try (exfalso;omega)
   all_goals exact z02 Tryz.func33 _ z2j ⟨rfl,rfl⟩
 · rw[zAy h0]
   generalize val e=v at *
   repeat' (first|(apply z13;(refine z08 (z7j (m:=(0,3)) (b:=.box ((rxc e).map .d)) rfl (z6m e) rfl) rfl rfl ?_))|(apply z03;(refine z1n hva ?_))|refine z01 ?_|refine fk (fun _=>?_) (fun _=>?_))
   all_goals try (exfalso;omega)
   all_goals refine y43 4 rfl ?_
   all_goals exact z02 Tryz.func33 _ z2j ⟨rfl,rfl⟩
end
theorem y7v {v:List ByteArray} (h:zf0 v):zkr (wds v) :=
 ⟨zav v,by have:=h.few;omega,fun w hw=>h.vld w ((z8o v w).1 hw),fun w hw=>by have:=h.size w ((z8o v w).1 hw);omega⟩
abbrev sT:ByteArray:=⟨#[97,46,42]⟩
abbrev sB:ByteArray:=⟨#[97,98]⟩
abbrev eT:Rx:=.mk 2 0 0 [] [.mk 1 0 0 [(97,97)] [],.mk 4 0 (-1) [] [.mk 1 0 0 [(0,1114111)] []]]
abbrev eB2:Rx:=.mk 2 0 0 [] [.mk 1 0 0 [(97,97)] [],.mk 1 0 0 [(98,98)] []]
abbrev cT:Au:=⟨[false,true,true],[[(97,97,1)],[(0,1114111,2)],[(0,1114111,2)]]⟩
abbrev v0:List ByteArray:=[⟨#[98]⟩,⟨#[65,98]⟩,⟨#[97,98]⟩,⟨#[97]⟩]
abbrev W0:List ByteArray:=[⟨#[65,98]⟩,⟨#[97]⟩,⟨#[97,98]⟩,⟨#[98]⟩]
theorem y1x:wds v0=W0:=by kernel_rfl
theorem yco:zf0 v0:=⟨by decide,by rw[y1x];decide,by decide,fun w hw=>by
 have h:v0.all zbi=true:=by kernel_rfl
 exact List.all_eq_true.1 h w hw⟩
theorem ybd:zkr W0:=by rw[← y1x];exact y7v yco
theorem yd6:fit eT:=by simp[fit,zz9]
theorem y7a:fit eB2:=by simp[fit,zz9]
theorem bdT:bd eT tb0=(⟨[[(97,97)],[(0,1114111)]],[2,2]⟩,⟨1,3,false⟩):=by rfl
theorem ybp:zh1 eT=some cT:=by
 rw[zh1,zqq]
 simp only[y3h,bdT]
 kernel_rfl
theorem yd5:vAu cT=0:=by kernel_rfl
theorem y1n:ya5 cT:=⟨by decide,by decide,by decide⟩
theorem yda:zfe (fun i=>cT.acc 0 (Go.Rx.z2x (wd W0 i))) W0.length=[1,2]:=by kernel_rfl
theorem ydu:zfe (fun i=>mtS zjm eB2 (wd W0 i)) W0.length=[0,2]:=by kernel_rfl
theorem yb3:z6a cT.F cT.A=[true,true,true]:=by
 have f1:z5m cT.F cT.A 1:=.fin 1 rfl
 have f2:z5m cT.F cT.A 2:=.fin 2 rfl
 have f0:z5m cT.F cT.A 0:=.arc 0 [(97,97,1)] (97,97,1) rfl (by simp) f1
 rw[zt6 (F:=cT.F) (A:=cT.A) fun q hq=>?_]
 · rfl
 · match q,hq with
   | 0,_=>exact f0
   | 1,_=>exact f1
   | 2,_=>exact f2
   | n+3,h=>exact absurd h (by simp[cT])
theorem ydi:ya9 W0 cT=3:=by
 rw[ya9,yb3]
 kernel_rfl
theorem zxn (τ:Tab):z0q Tryz.prog 47 [S sT] (zpf τ 0) [] (.tup [.d (eX eT),I .i64 0,I .i64 0]):=by
 have hX0:(10:Nat)≠700:=by decide
 have hX1:(10:Nat)≠701:=by decide
 have hs:sT.size≤1000000:=by decide
 have h1:=zrr hX0 hX1 τ sT hs 0 1 _ (zk1 hX0 hX1 τ sT hs 0 97 (by decide) (by rfl) (by decide) (by rfl)) (by decide) 46 (by rfl) (by decide)
 have h2:=y8y hX0 hX1 τ sT hs 1 2 _ (y2v hX0 hX1 τ sT hs 1 (by decide) (by rfl)) (by decide) (by rfl) (by rfl)
 have h3:=y1i hX0 hX1 τ sT hs 0 1 3 _ _ (by decide) (by decide) h1 h2 (by decide) (by decide) (by decide) 97 46 (-1) (by rfl) (by decide) (by rfl) (by decide) (by rfl) (.inl rfl)
 have h4:=y6i hX0 hX1 τ sT hs 0 3 _ (by decide) h3 (by decide) (by rfl)
 exact zli τ sT (by decide) eT yd6 rfl h4 (by rw[show unF 0 (rst sT 0)=[(97,0,1),(46,1,1),(42,2,1)] from rfl];decide) (by decide)
theorem zyg (τ:Tab):z0q Tryz.prog 47 [S sB] (zpf τ 0) [] (.tup [.d (eX eB2),I .i64 0,I .i64 0]):=by
 have hX0:(10:Nat)≠700:=by decide
 have hX1:(10:Nat)≠701:=by decide
 have hs:sB.size≤1000000:=by decide
 have h1:=zrr hX0 hX1 τ sB hs 0 1 _ (zk1 hX0 hX1 τ sB hs 0 97 (by decide) (by rfl) (by decide) (by rfl)) (by decide) 98 (by rfl) (by decide)
 have h2:=zrr hX0 hX1 τ sB hs 1 2 _ (zk1 hX0 hX1 τ sB hs 1 98 (by decide) (by rfl) (by decide) (by rfl)) (by decide) (-1) (by rfl) (by decide)
 have h3:=y1i hX0 hX1 τ sB hs 0 1 2 _ _ (by decide) (by decide) h1 h2 (by decide) (by decide) (by decide) 97 98 (-1) (by rfl) (by decide) (by rfl) (by decide) (by rfl) (.inl rfl)
 have h4:=y6i hX0 hX1 τ sB hs 0 2 _ (by decide) h3 (by decide) (by rfl)
 exact zli τ sB (by decide) eB2 y7a rfl h4 (by rw[show unF 0 (rst sB 0)=[(97,0,1),(98,1,1)] from rfl];decide) (by decide)
theorem y3c (τ:Tab):z0q Tryz.prog 17 [] (zpf τ 0) [] (B true):=by
 refine z0v fun H hH=>?_
 have hX0:=hH ((0,700),.glob 1 τ.o0) (by simp)
 have hX1:=hH ((0,701),.glob 2 τ.o1) (by simp)
 have p1:=zxn τ
 have p2:=zyg τ
 have hb:=zm3 v0 yco
 rw[y1x] at hb
 have q1:=zin eT yd6 rfl
 rw[ybp] at q1
 have s1:=zxd (X:=20) W0 (W0.map (z5s v0)) (znl W0) ybd cT y1n 0
 rw[ya8,zAz yd5,yda] at s1
 have s2:=zje (X:=20) W0 (W0.map (z5s v0)) (znl W0) ybd eB2 y7a 0
 rw[y62,zAz (show val eB2=0 from rfl),ydu] at s2
 have s3:=zyr (X:=20) W0 (W0.map (z5s v0)) (znl W0) ybd cT y1n 0
 rw[ya7,zAz yd5,ydi] at s3
 have t1:=zk9 [1,2] [1,2] (by decide)
 have t2:=zk9 [0,2] [0,2] (by decide)
 generalize znl W0=rv at *
 generalize W0.map (z5s v0)=C at *
 generalize (v0.map fun x=>loS W0 x)=N0 at *
 refine z06 Tryz.func17 (by kernel_rfl) rfl (by simp) ?_
 dsimp only[Tryz.f17]
 refine z47 700 0 700 hX0 rfl rfl ?_
 refine z47 701 0 701 (z07 hX1 (by simp)) rfl rfl ?_
 repeat' (first | (apply z03; (first | refine zcf s3 ?_| refine zcf s2 ?_| refine zcf s1 ?_| refine zcf p2 ?_| refine zcf p1 ?_| (refine z9n rfl (hb _) (by decide) rfl (fun r H' h => ⟨_, _, _, h.1, h.2, rfl, rfl, ?_⟩)) /- z5h -/ | refine z1n q1 ?_| refine z1n t1 ?_| refine z1n t2 ?_)) | refine z01 ?_ | (apply z10; (refine z08 (yca rfl) rfl rfl ?_)))
 all_goals try (exfalso;first|omega|(simp at *;done))
 all_goals refine z5f (raw:=.glob 1 τ.o0) 700 0 700 (z07 (z0y _ (0,700) _) (by simp)) ?_
 all_goals refine z5f (raw:=.glob 2 τ.o1) 701 0 701 (z07 (z0y _ (0,701) _) (by simp)) ?_
 all_goals exact z02 Tryz.func17 _ z1d ⟨rfl,z7m hX0 hX1⟩
theorem zyt (f:Nat→Bool) (n:Nat):(zfe f n).length≤n:=by rw[zfe,zA4];exact zfu f n
end Go.Proofs.YtmcggompdmngmaaGreatDoor
