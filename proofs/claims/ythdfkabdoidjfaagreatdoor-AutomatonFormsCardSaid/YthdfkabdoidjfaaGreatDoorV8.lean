/- A part of the proof: P1 to P3. -/
import Derived.Test.YthdfkabdoidjfaaGreatDoorVs
import Derived.Test.YthdfkabdoidjfaaGreatDoorVc
import Derived.Test.YthdfkabdoidjfaaGreatDoorVr
import Derived.Test.YthdfkabdoidjfaaGreatDoorVp
import Derived.Test.YthdfkabdoidjfaaGreatDoorVq
set_option linter.all false
namespace Go.Proofs.YthdfkabdoidjfaaGreatDoor
open Go.Ab Go.Rx
set_option maxHeartbeats 20000000
set_option maxRecDepth 100000
attribute [local irreducible] Run Ops Op1 z2a Val Tr z0y z1x NF Rel z3i z3g
abbrev sA:ByteArray:=⟨#[40,97,98,41,42]⟩
theorem hsA:sA.size≤1000000:=by decide
section
variable {X:Nat} (hX0:X≠700) (hX1:X≠701) (τ:Tab)
include hX0 hX1
theorem zzk (i:Nat) (c:Int) (hi:i<sA.size) (hx:nx (rst sA i)=c) (hc:97≤c∧c≤98) (hw:(Utf8.decode sA i).2=1) (e0:Nat) :
 z1x Tryz.prog 150 [.ptr (e0,X) 0,S (spB spA)] (((e0,X),pbx sA i 0 0)::zfm τ (e0+1)) [((e0,X),pbx sA ((i+1:Nat):Int) 0 0)] (.tup [I .i32 c,B true]):=by
 refine z2f fun H hH=>?_
 have hX:H e0 X=some (pbx sA i 0 0):=hH ((e0,X),pbx sA i 0 0) (by simp)
 have hT:HT τ (e0+1) H:=HT.of (bs:=[((e0,X),pbx sA i 0 0)]) hH
 have hn:=z6m (X:=X) τ sA i (by omega) 0 0 (e0+1)
 have hsk:=y0y (X:=X) τ sA i hi hsA 0 0 (e0+1)
 rw[hx] at hn
 rw[hw] at hsk
 refine z0k Tryz.func150 (by kernel_rfl) rfl (by simp) ?_
 dsimp only[Tryz.f150]
 repeat' (first|(apply z07;(first|refine z0r ?_| (apply z0b;(refine z3s rfl hX rfl rfl rfl rfl (by decide) ?_))|(apply z0e;(refine z02 z0q rfl rfl ?_))|(apply z0t;(refine z02 (z0u z0x) rfl rfl ?_))|(apply z0s;(first|refine z6q hsk rfl hX (bkT (by repeat (first|exact hT|refine HT.upd ?_ hX0 hX1))) (by decide) ?_|refine z3p hn rfl (z3k (m:=(e0+1,X)) hX (bkT (by repeat (first|exact hT|refine HT.upd ?_ hX0 hX1)))) (by decide) ?_))))|(apply z08;(first|refine z0p ?_|apply z09))|(apply z05;(first|apply z06|apply z00|apply z04|refine z0f (fun _=>?_) (fun _=>?_))))
 all_goals try (exfalso;omega)
 all_goals ((repeat rw[z4j]);first|exact z0n Tryz.func150 _ (z1a rfl rfl rfl rfl rfl rfl rfl) ⟨rfl,rfl⟩|exact z0n Tryz.func150 _ z5j ⟨rfl,rfl⟩|exact z0n Tryz.func150 _ z19 ⟨rfl,rfl⟩|exact z0n Tryz.func150 _ (z4c rfl rfl rfl rfl) ⟨rfl,rfl⟩)
theorem y0b (i:Nat) (c:Int) (hi:i<sA.size) (hx:nx (rst sA i)=c) (hc:97≤c∧c≤98) (hw:(Utf8.decode sA i).2=1) (e0:Nat) :
 z1x Tryz.prog 138 [.ptr (e0,X) 0] (((e0,X),pbx sA i 0 0)::zfm τ (e0+1)) [((e0,X),pbx sA ((i+1:Nat):Int) 0 0)] (.tup [.d (eX (Rx.one c c)),B true]):=by
 refine z2f fun H hH=>?_
 have hX:H e0 X=some (pbx sA i 0 0):=hH ((e0,X),pbx sA i 0 0) (by simp)
 have hT:HT τ (e0+1) H:=HT.of (bs:=[((e0,X),pbx sA i 0 0)]) hH
 have hn:=z6m (X:=X) τ sA i (by omega) 0 0 (e0+1)
 have hcr:=zeb y6q (nx (rst sA i)) (zwt sA i).1 (zwt sA i).2
 have ho:=y5f c c
 have hch:=zzk hX0 hX1 τ i c hi hx hc hw (e0+1)
 refine z0k Tryz.func138 (by kernel_rfl) rfl (by simp) ?_
 dsimp only[Tryz.f138]
 rw[zqm] at ho ⊢
 rw[hx] at hn hcr
 rw[show spA.contains c=false from by rcases (show c=97∨c=98 by omega) with rfl|rfl <;> rfl] at hcr
 repeat' (first|(apply z07;(first|refine z0r ?_| (apply z0b;(refine z3s rfl hX rfl rfl rfl rfl (by decide) ?_))|(apply z0e;(refine z02 z0q rfl rfl ?_))|(apply z0t;(refine z02 (z0u z0x) rfl rfl ?_))|(apply z0s;(first|refine z6q hch rfl hX (bkT (by repeat (first|exact hT|refine HT.upd ?_ hX0 hX1))) (by decide) ?_|refine z3p hn rfl (z3k (m:=(e0+1,X)) hX (bkT (by repeat (first|exact hT|refine HT.upd ?_ hX0 hX1)))) (by decide) ?_|refine z1w hcr ?_| refine z1w ho ?_))|(apply z0c;(refine z22 ?_))|(apply z0g;(refine z0a z16 ?_))))|(apply z08;(first|refine z0p ?_|apply z09|refine z1v ?_| refine z6c rfl rfl (fun _=>?_) (fun _=>?_)))|(apply z05;(first|apply z06|apply z00|refine z0w ?_| apply z04|apply z01|apply z03|refine z0f (fun _=>?_) (fun _=>?_))))
 all_goals exact zD73
theorem zx6 (i:Nat) (c d:Int) (hi:i<sA.size) (hx:nx (rst sA i)=c) (hc:97≤c∧c≤98) (hw:(Utf8.decode sA i).2=1) (hd:nx (rst sA (i+1))=d) (hdd:d=98∨d=41) (e0:Nat) :
 z1x Tryz.prog 123 [.ptr (e0,X) 0] (((e0,X),pbx sA i 0 0)::zfm τ (e0+1)) [((e0,X),pbx sA ((i+1:Nat):Int) 0 0)] (.tup [.d (eX (Rx.one c c)),B true]):=by
 refine z2f fun H hH=>?_
 have hX:H e0 X=some (pbx sA i 0 0):=hH ((e0,X),pbx sA i 0 0) (by simp)
 have hT:HT τ (e0+1) H:=HT.of (bs:=[((e0,X),pbx sA i 0 0)]) hH
 have ha:=y0b hX0 hX1 τ i c hi hx hc hw (e0+1)
 have hn:=z6m (X:=X) τ sA (i+1) (by omega) 0 0 (e0+1)
 rw[hd] at hn
 refine z0k Tryz.func123 (by kernel_rfl) rfl (by simp) ?_
 dsimp only[Tryz.f123]
 rw[zqm] at ha ⊢
 repeat' (first|(apply z07;(first|refine z0r ?_| (apply z0s;(refine z6q ha rfl hX (bkT (by repeat (first|exact hT|refine HT.upd ?_ hX0 hX1))) (by decide) ?_))|(apply z0c;(refine z22 ?_))|(apply z0g;(refine z0a z16 ?_))))|(apply z08;(first|refine z0p ?_|apply z09))|(apply z05;(first|apply z06|apply z00|apply z01)))
 all_goals try (exfalso;omega)
 refine z1f ?_
 refine z4n ?_
 repeat' (first|(apply z07;(first|refine z0r ?_| (apply z0b;(first|refine z3s rfl (z45 _ (e0,X) _) rfl rfl rfl rfl (by decide) ?_|refine z02 z1y rfl rfl ?_))|(apply z0e;(refine z02 z0q rfl rfl ?_))|(apply z0t;(refine z02 (z0u z0x) rfl rfl ?_))|(apply z0s;(refine z3p hn rfl (z3k (m:=(e0+1,X)) (z45 _ (e0,X) _) (bkT (by repeat (first|exact hT|refine HT.upd ?_ hX0 hX1)))) (by decide) ?_))|(apply z0c;(refine z22 ?_))))|(apply z08;(first|refine z0p ?_|apply z09))|(apply z05;(first|apply z06|apply z00|refine z1c ?_| apply z04|apply z01|apply z03|refine z0f (fun _=>?_) (fun _=>?_))))
 all_goals exact zD74
abbrev eA:Rx:=.mk 1 0 0 [(97,97)] []
abbrev eB:Rx:=.mk 1 0 0 [(98,98)] []
abbrev eAB:Rx:=.mk 2 0 0 [] [eA,eB]
abbrev bx2:Nat × Blk:=(2,.box (z8l [Value.int .i64 0,Value.int .i64 0,Value.int .i64 0,z4d,z4d]))
theorem y11 (e0:Nat) :
 z1x Tryz.prog 109 [.ptr (e0,X) 0] (((e0,X),pbx sA 1 0 0)::zfm τ (e0+1)) [((e0,X),pbx sA 3 0 0)] (.tup [.d (eX eAB),B true]):=by
 refine z2f fun H hH=>?_
 have hX:H e0 X=some (pbx sA 1 0 0):=hH ((e0,X),pbx sA 1 0 0) (by simp)
 have hT:HT τ (e0+1) H:=HT.of (bs:=[((e0,X),pbx sA 1 0 0)]) hH
 have h1:=zx6 hX0 hX1 τ 1 97 98 (by decide) (by rfl) (by decide) (by rfl) (by rfl) (.inl rfl) (e0+1)
 have h2:=zx6 hX0 hX1 τ 2 98 41 (by decide) (by rfl) (by decide) (by rfl) (by rfl) (.inr rfl) (e0+1)
 have hn1:=z6m (X:=X) τ sA 1 (by decide) 0 0 (e0+1)
 have hn2:=z6m (X:=X) τ sA 2 (by decide) 0 0 (e0+1)
 have hn3:=z6m (X:=X) τ sA 3 (by decide) 0 0 (e0+1)
 rw[show nx (rst sA 1)=97 from rfl] at hn1
 rw[show nx (rst sA 2)=98 from rfl] at hn2
 rw[show nx (rst sA 3)=41 from rfl] at hn3
 refine z0k Tryz.func109 (by kernel_rfl) rfl (by simp) ?_
 dsimp only[Tryz.f109]
 rw[zqm] at h1 h2
 rw[zhj]
 repeat' (first|(apply z07;(first|refine z0r ?_| (apply z0s;(refine z3p hn1 rfl (z3k (m:=(e0+1,X)) hX (bkT (by repeat (first|exact hT|refine HT.upd ?_ hX0 hX1)))) (by decide) ?_))|(apply z0g;(refine z0a z16 ?_))))|(apply z08;(first|refine z0p ?_|apply z09))|(apply z05;(first|apply z06|apply z00|apply z01)))
 all_goals try (exfalso;omega)
 refine z2x 4 1000 44 5 rfl rfl rfl ?_
 refine z1f ?_
 refine z4n ?_
 repeat' (first|(apply z07;(first|refine z0r ?_| (apply z0b;(first|refine z02 z1i rfl rfl ?_| refine z02 z1y rfl rfl ?_))|(apply z0e;(refine z02 z0q rfl rfl ?_))|(apply z11;(refine z5z (g:=rxc) (q:=[]) rfl rfl eA (by rw[z3j];rfl) rfl rfl rfl (zea _) rfl rfl (by decide) (by decide) ?_))|(apply z0s;(first|refine z6q h1 rfl hX (bkT (by repeat (first|exact hT|refine HT.upd ?_ hX0 hX1))) (by decide) ?_|refine z3p hn2 rfl (z3k (m:=(e0+1,X)) (z45 _ (e0,X) _) (bkT (by repeat (first|exact hT|refine HT.upd ?_ hX0 hX1)))) (by decide) ?_))|(apply z0c;(refine z22 ?_))|(apply z0g;(refine z0a z16 ?_))|(apply z2o;(refine z2s rfl ?_))))|(apply z08;(first|refine z0p ?_|apply z09))|(apply z05;(first|apply z06|apply z00|refine z1c ?_| refine z0w ?_| apply z04|apply z01|apply z03)))
 all_goals try (exfalso;omega)
 refine z2p 40 1000 ?_
 refine z0d (tm':=[(0,.ptr (e0+1,X) 0),(2,.ptr (0,2) 0),(4,.ref (0,1000)),(5,I .i32 98)]) (hp':=[(1000,.row 44 5 ([eA].map rxc)),bx2]) ?_ rfl rfl
 refine z4n ?_
 repeat' (first|(apply z07;(first|refine z0r ?_| (apply z0b;(first|refine z02 z1i rfl rfl ?_| refine z02 z1y rfl rfl ?_))|(apply z0e;(refine z02 z0q rfl rfl ?_))|(apply z11;(refine z5z (g:=rxc) (q:=[eA]) rfl rfl eB (by rw[z3j];rfl) rfl rfl rfl (zea _) rfl rfl (by decide) (by decide) ?_))|(apply z0s;(first|refine z6q h2 rfl (z45 _ (e0,X) _) (bkT (by repeat (first|exact hT|refine HT.upd ?_ hX0 hX1))) (by decide) ?_|refine z3p hn3 rfl (z3k (m:=(e0+1,X)) (z45 _ (e0,X) _) (bkT (by repeat (first|exact hT|refine HT.upd ?_ hX0 hX1)))) (by decide) ?_))|(apply z0c;(refine z22 ?_))|(apply z0g;(refine z0a z16 ?_))|(apply z2o;(refine z2s rfl ?_))))|(apply z08;(first|refine z0p ?_|apply z09))|(apply z05;(first|apply z06|apply z00|refine z1c ?_| refine z0w ?_| apply z04|apply z01|apply z03)))
 all_goals try (exfalso;omega)
 refine z2p 40 1000 ?_
 refine z0d (tm':=[(0,.ptr (e0+1,X) 0),(2,.ptr (0,2) 0),(4,.ref (0,1000)),(5,I .i32 41)]) (hp':=[(1000,.row 44 5 ([eA,eB].map rxc)),bx2]) ?_ rfl rfl
 refine z2g 1000 rfl ?_
 refine z4n ?_
 repeat' (first|(apply z07;(first|refine z0r ?_| (apply z11;(refine z02 (z1k rfl) rfl rfl ?_))|(apply z0c;(refine z22 ?_))|(apply z10;(refine z23 ?_))))|(apply z08;(first|refine z0p ?_|apply z09))|(apply z05;(first|apply z06|apply z00|refine z0w ?_| apply z04|refine z0l ?_)))
 all_goals exact zD75
theorem y5g (e0:Nat) :
 z1x Tryz.prog 70 [.ptr (e0,X) 0] (((e0,X),pbx sA 1 0 0)::zfm τ (e0+1)) [((e0,X),pbx sA 3 0 0)] (.tup [.d (eX eAB),B true]):=by
 refine z2f fun H hH=>?_
 have hX:H e0 X=some (pbx sA 1 0 0):=hH ((e0,X),pbx sA 1 0 0) (by simp)
 have hT:HT τ (e0+1) H:=HT.of (bs:=[((e0,X),pbx sA 1 0 0)]) hH
 have hr:=y11 hX0 hX1 τ (e0+1)
 have hn:=z6m (X:=X) τ sA 3 (by decide) 0 0 (e0+1)
 rw[show nx (rst sA 3)=41 from rfl] at hn
 refine z0k Tryz.func70 (by kernel_rfl) rfl (by simp) ?_
 dsimp only[Tryz.f70]
 rw[zhj] at hr ⊢
 repeat' (first|(apply z07;(first|refine z0r ?_| (apply z0g;(refine z0a z16 ?_))))|(apply z08;(first|refine z0p ?_|apply z09))|(apply z05;(first|apply z06|apply z00|apply z01)))
 all_goals try (exfalso;omega)
 refine z2x 4 1000 44 5 rfl rfl rfl ?_
 refine z1f ?_
 refine z4n ?_
 repeat' (first|(apply z07;(first|refine z0r ?_| (apply z0b;(first|refine z02 z1i rfl rfl ?_| refine z02 z1z rfl rfl ?_| refine z02 z1y rfl rfl ?_))|(apply z0e;(refine z02 z0q rfl rfl ?_))|(apply z0m;(refine z02 (z4p (u:=rx5 2 0 0 [] [eA,eB]) rfl (by omega) rfl rfl) rfl rfl ?_))|(apply z11;(first|refine z5z (g:=rxc) (q:=[]) rfl rfl eAB (by rw[z3j];rfl) rfl rfl rfl (zea _) rfl rfl (by decide) (by decide) ?_|refine z02 (zys rfl) rfl rfl ?_))|(apply z0s;(first|(refine z3p hn rfl (z3k (m:=(e0+1,X)) (z45 _ (e0,X) _) (bkT (by repeat (first|exact hT|refine HT.upd ?_ hX0 hX1)))) (by decide) ?_;refine zcc 25 rfl ?_;rw[List.nil_append,List.map_cons,List.map_nil,z3j])|refine z6q hr rfl hX (bkT (by repeat (first|exact hT|refine HT.upd ?_ hX0 hX1))) (by decide) ?_))|(apply z0c;(refine z22 ?_))|(apply z0g;(refine z0a z16 ?_))|(apply z2o;(refine z2s rfl ?_))))|(apply z08;(first|refine z0p ?_|apply z09))|(apply z05;(first|apply z06|apply z00|refine z1c ?_| refine z0w ?_| apply z04|apply z01|refine z0l ?_)))
 all_goals exact zD77
theorem y00 (e0:Nat) :
 z1x Tryz.prog 138 [.ptr (e0,X) 0] (((e0,X),pbx sA 0 0 0)::zfm τ (e0+1)) [((e0,X),pbx sA 4 0 0)] (.tup [.d (eX eAB),B true]):=by
 refine z2f fun H hH=>?_
 have hX:H e0 X=some (pbx sA 0 0 0):=hH ((e0,X),pbx sA 0 0 0) (by simp)
 have hT:HT τ (e0+1) H:=HT.of (bs:=[((e0,X),pbx sA 0 0 0)]) hH
 have hu:=y5g hX0 hX1 τ (e0+1)
 have hn:=z6m (X:=X) τ sA 0 (by decide) 0 0 (e0+1)
 rw[show nx (rst sA 0)=40 from rfl] at hn
 have heat:=y5v hX0 hX1 τ sA hsA 3 (by decide) 41 (by decide) (by decide) (e0+1)
 rw[show nx (rst sA 3)=41 from rfl,zAz rfl,zAi rfl] at heat
 refine z0k Tryz.func138 (by kernel_rfl) rfl (by simp) ?_
 dsimp only[Tryz.f138]
 rw[zhj] at hu ⊢
 repeat' (first|(apply z07;(first|refine z0r ?_| (apply z0b;(refine z3s rfl hX rfl rfl rfl rfl (by decide) ?_))|(apply z0e;(refine z02 z0q rfl rfl ?_))|(apply z0t;(refine z02 (z0u z0x) rfl rfl ?_))|(apply z0s;(first|refine z6q hu rfl (z45 _ (e0,X) _) (bkT (by repeat (first|exact hT|refine HT.upd ?_ hX0 hX1))) (by decide) ?_|refine z3p hn rfl (z3k (m:=(e0+1,X)) hX (bkT (by repeat (first|exact hT|refine HT.upd ?_ hX0 hX1)))) (by decide) ?_))|(apply z0c;(first|refine z55 (raw':=pbx sA 1 0 0) rfl hX rfl rfl rfl rfl rfl rfl ?_|refine z22 ?_))|(apply z0g;(refine z0a z16 ?_))))|(apply z08;(first|refine z0p ?_|apply z09))|(apply z05;(first|apply z06|apply z00|refine z1c ?_| apply z01|apply z2b))|(apply z2c;(first|(apply z0v;refine z1h mix ?_)|refine z2e ?_| (apply z0j;(refine z0h z1y rfl rfl ?_))|(apply z1j;(refine zzn heat (by first|exact rfl|exact⟨_,rfl,rfl,rfl⟩) rfl (z45 _ (e0,X) _) (bkT (by repeat (first|exact hT|refine HT.upd ?_ hX0 hX1))) (by decide) ?_))|(apply z1q;(refine z52 (by first|exact rfl|exact⟨_,rfl,rfl,rfl⟩) rfl rfl rfl rfl rfl rfl ?_)))))
 all_goals exact zD73
abbrev eSt:Rx:=.mk 4 0 (-1) [] [eAB]
theorem y2q (e0:Nat) :
 z1x Tryz.prog 123 [.ptr (e0,X) 0] (((e0,X),pbx sA 0 0 0)::zfm τ (e0+1)) [((e0,X),pbx sA 5 0 0)] (.tup [.d (eX eSt),B true]):=by
 refine z2f fun H hH=>?_
 have hX:H e0 X=some (pbx sA 0 0 0):=hH ((e0,X),pbx sA 0 0 0) (by simp)
 have hT:HT τ (e0+1) H:=HT.of (bs:=[((e0,X),pbx sA 0 0 0)]) hH
 have ha:=y00 hX0 hX1 τ (e0+1)
 have hn:=z6m (X:=X) τ sA 4 (by decide) 0 0 (e0+1)
 have hn5:=z6m (X:=X) τ sA 5 (by decide) 0 0 (e0+1)
 rw[show nx (rst sA 4)=42 from rfl] at hn
 rw[show nx (rst sA 5)=-1 from rfl] at hn5
 refine z0k Tryz.func123 (by kernel_rfl) rfl (by simp) ?_
 dsimp only[Tryz.f123]
 rw[zhj] at ha ⊢
 rw[show rx5 4 0 (-1) [] [eAB]=[z2w 4,z2w 0,z2w (-1),rgs [],.slice [rx5 2 0 0 [] [eA,eB]]] by rw[rx5,List.map_cons,List.map_nil,z3j]]
 repeat' (first|(apply z07;(first|refine z0r ?_| (apply z0s;(refine z6q ha rfl hX (bkT (by repeat (first|exact hT|refine HT.upd ?_ hX0 hX1))) (by decide) ?_))|(apply z0c;(refine z22 ?_))|(apply z0g;(refine z0a z16 ?_))))|(apply z08;(first|refine z0p ?_|apply z09))|(apply z05;(first|apply z06|apply z00|apply z01)))
 all_goals try (exfalso;omega)
 refine z1f ?_
 refine z4n ?_
 repeat' (first|(apply z07;(first|refine z0r ?_| (apply z0b;(first|refine z3s rfl (z45 _ (e0,X) _) rfl rfl rfl rfl (by decide) ?_|refine z02 z1y rfl rfl ?_))|(apply z0e;(refine z02 z0q rfl rfl ?_))|(apply z0t;(refine z02 (z0u z0x) rfl rfl ?_))|(apply z0s;(refine z3p hn rfl (z3k (m:=(e0+1,X)) (z45 _ (e0,X) _) (bkT (by repeat (first|exact hT|refine HT.upd ?_ hX0 hX1)))) (by decide) ?_))|(apply z0c;(first|refine z55 (raw':=pbx sA 5 0 0) rfl (z45 _ (e0,X) _) rfl rfl rfl rfl rfl rfl ?_|refine z22 ?_))|(apply z10;(refine z23 ?_))|(apply z2o;(refine z2s rfl ?_))))|(apply z08;(first|refine z0p ?_|apply z09))|(apply z05;(first|apply z06|apply z00|refine z1c ?_| apply z04|apply z01|apply z03)))
 all_goals try (exfalso;omega)
 refine z4n ?_
 repeat' (first|(apply z07;(first|refine z0r ?_| (apply z0b;(refine z02 z1y rfl rfl ?_))|(apply z0s;(refine z3p hn5 rfl (z3k (m:=(e0+1,X)) (z45 _ (e0,X) _) (bkT (by repeat (first|exact hT|refine HT.upd ?_ hX0 hX1)))) (by decide) ?_))|(apply z0c;(refine z22 ?_))))|(apply z08;(first|refine z0p ?_|apply z09))|(apply z05;(first|apply z06|apply z00|refine z1c ?_| refine z0w ?_| apply z04|apply z01)))
 all_goals exact zD74
theorem y23 (e0:Nat) :
 z1x Tryz.prog 109 [.ptr (e0,X) 0] (((e0,X),pbx sA 0 0 0)::zfm τ (e0+1)) [((e0,X),pbx sA 5 0 0)] (.tup [.d (eX eSt),B true]):=by
 refine z2f fun H hH=>?_
 have hX:H e0 X=some (pbx sA 0 0 0):=hH ((e0,X),pbx sA 0 0 0) (by simp)
 have hT:HT τ (e0+1) H:=HT.of (bs:=[((e0,X),pbx sA 0 0 0)]) hH
 have h1:=y2q hX0 hX1 τ (e0+1)
 have hn1:=z6m (X:=X) τ sA 0 (by decide) 0 0 (e0+1)
 have hn2:=z6m (X:=X) τ sA 5 (by decide) 0 0 (e0+1)
 rw[show nx (rst sA 0)=40 from rfl] at hn1
 rw[show nx (rst sA 5)=-1 from rfl] at hn2
 refine z0k Tryz.func109 (by kernel_rfl) rfl (by simp) ?_
 dsimp only[Tryz.f109]
 rw[zhj] at h1 ⊢
 repeat' (first|(apply z07;(first|refine z0r ?_| (apply z0s;(refine z3p hn1 rfl (z3k (m:=(e0+1,X)) hX (bkT (by repeat (first|exact hT|refine HT.upd ?_ hX0 hX1)))) (by decide) ?_))|(apply z0g;(refine z0a z16 ?_))))|(apply z08;(first|refine z0p ?_|apply z09))|(apply z05;(first|apply z06|apply z00|apply z01)))
 all_goals try (exfalso;omega)
 refine z2x 4 1000 44 5 rfl rfl rfl ?_
 refine z1f ?_
 refine z4n ?_
 repeat' (first|(apply z07;(first|refine z0r ?_| (apply z0b;(first|refine z02 z1i rfl rfl ?_| refine z02 z1y rfl rfl ?_))|(apply z0e;(refine z02 z0q rfl rfl ?_))|(apply z11;(refine z5z (g:=rxc) (q:=[]) rfl rfl eSt (by rw[z3j];rfl) rfl rfl rfl (zea _) rfl rfl (by decide) (by decide) ?_))|(apply z0s;(first|refine z6q h1 rfl hX (bkT (by repeat (first|exact hT|refine HT.upd ?_ hX0 hX1))) (by decide) ?_|refine z3p hn2 rfl (z3k (m:=(e0+1,X)) (z45 _ (e0,X) _) (bkT (by repeat (first|exact hT|refine HT.upd ?_ hX0 hX1)))) (by decide) ?_))|(apply z0c;(refine z22 ?_))|(apply z0g;(refine z0a z16 ?_))|(apply z2o;(refine z2s rfl ?_))))|(apply z08;(first|refine z0p ?_|apply z09))|(apply z05;(first|apply z06|apply z00|refine z1c ?_| refine z0w ?_| apply z04|apply z01|apply z03)))
 all_goals try (exfalso;omega)
 refine z2p 40 1000 ?_
 refine z0d (tm':=[(0,.ptr (e0+1,X) 0),(2,.ptr (0,2) 0),(4,.ref (0,1000)),(5,I .i32 (-1))]) (hp':=[(1000,.row 44 5 ([eSt].map rxc)),bx2]) ?_ rfl rfl
 rw[List.map_cons,List.map_nil,z3j]
 refine z2g 1000 rfl ?_
 refine z4n ?_
 repeat' (first|(apply z07;(first|refine z0r ?_| (apply z0b;(refine z02 z1z rfl rfl ?_))|(apply z0m;(refine z02 (z4p (u:=rx5 4 0 (-1) [] [eAB]) rfl (by omega) rfl rfl) rfl rfl ?_))|(apply z11;(refine z02 (zys rfl) rfl rfl ?_))|(apply z0c;(refine z22 ?_))))|(apply z08;(first|refine z0p ?_|apply z09|refine z1v ?_))|(apply z05;(first|apply z06|apply z00|refine z1c ?_| refine z0w ?_| refine z0l ?_)))
 all_goals exact zD75
theorem y5n (e0:Nat) :
 z1x Tryz.prog 70 [.ptr (e0,X) 0] (((e0,X),pbx sA 0 0 0)::zfm τ (e0+1)) [((e0,X),pbx sA 5 0 0)] (.tup [.d (eX eSt),B true]):=by
 refine z2f fun H hH=>?_
 have hX:H e0 X=some (pbx sA 0 0 0):=hH ((e0,X),pbx sA 0 0 0) (by simp)
 have hT:HT τ (e0+1) H:=HT.of (bs:=[((e0,X),pbx sA 0 0 0)]) hH
 have hr:=y23 hX0 hX1 τ (e0+1)
 have hn:=z6m (X:=X) τ sA 5 (by decide) 0 0 (e0+1)
 rw[show nx (rst sA 5)=-1 from rfl] at hn
 refine z0k Tryz.func70 (by kernel_rfl) rfl (by simp) ?_
 dsimp only[Tryz.f70]
 rw[zhj] at hr ⊢
 repeat' (first|(apply z07;(first|refine z0r ?_| (apply z0g;(refine z0a z16 ?_))))|(apply z08;(first|refine z0p ?_|apply z09))|(apply z05;(first|apply z06|apply z00|apply z01)))
 all_goals try (exfalso;omega)
 refine z2x 4 1000 44 5 rfl rfl rfl ?_
 refine z1f ?_
 refine z4n ?_
 repeat' (first|(apply z07;(first|refine z0r ?_| (apply z0b;(first|refine z02 z1i rfl rfl ?_| refine z02 z1z rfl rfl ?_| refine z02 z1y rfl rfl ?_))|(apply z0e;(refine z02 z0q rfl rfl ?_))|(apply z0m;(refine z02 (z4p (u:=rx5 4 0 (-1) [] [eAB]) rfl (by omega) rfl rfl) rfl rfl ?_))|(apply z11;(first|refine z5z (g:=rxc) (q:=[]) rfl rfl eSt (by rw[z3j];rfl) rfl rfl rfl (zea _) rfl rfl (by decide) (by decide) ?_|refine z02 (zys rfl) rfl rfl ?_))|(apply z0s;(first|(refine z3p hn rfl (z3k (m:=(e0+1,X)) (z45 _ (e0,X) _) (bkT (by repeat (first|exact hT|refine HT.upd ?_ hX0 hX1)))) (by decide) ?_;refine zcc 25 rfl ?_;rw[List.nil_append,List.map_cons,List.map_nil,z3j])|refine z6q hr rfl hX (bkT (by repeat (first|exact hT|refine HT.upd ?_ hX0 hX1))) (by decide) ?_))|(apply z0c;(refine z22 ?_))|(apply z0g;(refine z0a z16 ?_))|(apply z2o;(refine z2s rfl ?_))))|(apply z08;(first|refine z0p ?_|apply z09))|(apply z05;(first|apply z06|apply z00|refine z1c ?_| refine z0w ?_| apply z04|apply z01|refine z0l ?_)))
 all_goals exact zD77
end
theorem zzw {P:Program} {f:FuncId} {R:z42} {k:List Item} {all:Array Oper} {l:List Oper} {n:Nat} {tm:List (Nat × PV)} {hp:Hp} {up:Hf} {d:Nat} {ty:TypeId} {pos:String} {aft:Array Edge} {gd:Option (Nat × Bool)} {p:PV} {g:FuncId} {args:List Operand} {ps:List PV} {ats:Array TypeId} {ms:Nat} {b b':Blk} {bs:List (Nm × Blk)}
 (hsp:z1x P g ps (((0,ms),b)::bs) [((0,ms),b')] p) (hev:St.evs ⟨n,tm,hp,up⟩ args=some ps) (hb:Ab.look hp ms=some b) (hbs:BkE ⟨n,tm,hp,up⟩ bs) (hd:d<n)
 (h:Ops P f R all l k ⟨n,(d,p)::tm,(ms,b')::hp,up⟩):Op1 P f R all ⟨some d,.call ⟨.value (.func g),args.toArray,ats⟩,ty,pos,aft,gd⟩ l k ⟨n,tm,hp,up⟩ :=
 zke hsp hev (z3k (m:=(0,ms)) hb hbs) hd rfl h
theorem zvc (τ:Tab):z1x Tryz.prog 39 [S sA] (zfm τ 0) [] (.tup [.d (eX eSt),I .i64 0,I .i64 0]):=by
 refine z2f fun H hH=>?_
 have hT:HT τ 0 H:=HT.of (bs:=[]) hH
 have hv:=z4w eSt (by simp[fit,zd0])
 rw[show val eSt=0 from rfl,show Drx eSt=.agg (rx5 4 0 (-1) [] [eAB]) from zhj _ _ _ _ _] at hv
 have hu:=y5n (X:=10) (by decide) (by decide) τ 0
 rw[zhj] at hu ⊢
 refine z0k Tryz.func39 (by kernel_rfl) rfl (by simp) ?_
 dsimp only[Tryz.f39]
 have h5:¬ 200<sA.size:=by decide
 repeat' (first|(apply z07;(first|refine z0r ?_| (apply z11;(refine z02 (z7s rfl) rfl rfl ?_))|(apply z0g;(refine z0a z16 ?_))))|(apply z08;(first|refine z0p ?_|apply z09))|(apply z05;(first|apply z06|apply z00|refine z0w ?_| apply z04|apply z01)))
 all_goals try (exfalso;omega)
 obtain⟨L,hL⟩:∃ L,unF 0 (rst sA 0)=L:=⟨_,rfl⟩
 have hok:∀ u∈L,¬ (u.1=65533∧u.2.2=1):=by rw[← hL,show unF 0 (rst sA 0)=[(40,0,1),(97,1,1),(98,2,1),(41,3,1),(42,4,1)] from rfl];decide
 have hll:L.length=5:=by rw[← hL];rfl
 refine z1f ?_
 refine z0d (z25 (fun q:Nat=>⟨66,[(0,S sA),(2,.ptr (0,2) 0),(5,I .i64 (q:Nat))],[(2,.box (z8l [Value.int .i64 0,Value.int .i64 0,Value.int .i64 0,z4d,z4d]))],H⟩)
  (fun q=>q≤L.length) (fun q=>L.length-q) ?_ 0 (zAf _)) rfl rfl
 intro q i1 ih
 have hat:=y6k sA hsA q (by omega)
 rw[atR,hL] at hat
 by_cases hlt:q<L.length
 · obtain⟨u,hu⟩:∃ u,L[q]? =some u:=⟨_,zA0 hlt⟩
   rw[hu] at hat
   simp only at hat
   have hnb:=hok u (zA2 hu)
   repeat' (first|(apply z07;(first|refine z0r ?_| (apply z0t;(refine z02 (z0u z0x) rfl rfl ?_))|(apply z0s;(refine z1w hat ?_))|(apply z0c;(refine z22 ?_))|(apply z10;(refine z23 ?_))))|(apply z08;(first|refine z0p ?_|apply z09|refine z1v ?_| refine z2n (fun _=>?_) (fun _=>?_)))|(apply z05;(first|apply z06|apply z00|refine z0w ?_| apply z04|apply z01|apply z03|refine z0f (fun _=>?_) (fun _=>?_))))
   all_goals try (exfalso;omega)
   all_goals exact z0d (ih (q+1) (by omega) (by omega)) rfl rfl
 · obtain rfl:q=L.length:=by omega
   rw[zAv (zAj _)] at hat
   simp only at hat
   clear ih
   repeat' (first|(apply z07;(first|refine z0r ?_| (apply z0b;(first|refine z02 z1i rfl rfl ?_| refine z02 z1y rfl rfl ?_))|(apply z0e;(refine z02 z0q rfl rfl ?_))|(apply z11;(refine z02 (z7s rfl) rfl rfl ?_))|(apply z0s;(first|refine zzw hu rfl rfl (bkT hT) (by decide) ?_|refine z1w hat ?_| refine z1w hv ?_))|(apply z0c;(refine z22 ?_))|(apply z0g;(refine z0a z16 ?_))|(apply z10;(refine z23 ?_))))|(apply z08;(first|refine z0p ?_|apply z09))|(apply z05;(first|apply z06|apply z00|refine z1c ?_| refine z0w ?_| apply z04|apply z01|refine z0l ?_)))
   all_goals try (exfalso;omega)
   all_goals exact z0n Tryz.func39 _ (zie rfl rfl rfl rfl rfl rfl rfl rfl) ⟨rfl,rfl⟩
attribute [local irreducible] zac
abbrev tz:Tb:=⟨[],[]⟩
abbrev ksA:List Rx:=[eA,eB]
def stA:Nat→Tb × Pt
 | 0=>(tz,ptE)
 | 1=>(⟨[[(97,97)]],[0]⟩,⟨1,1,false⟩)
 | _=>(⟨[[(97,97)],[(98,98)]],[2,0]⟩,⟨1,2,false⟩)
theorem y24:zbn 105 [.d (Drx eAB)] tz (stA 2):=by
 have hA:zbn 105 [.d (Drx eA)] tz (bd eA tz):=zg8 0 0 [(97,97)] [] tz ⟨rfl,by simp⟩ (by decide)
 have hB:zbn 105 [.d (Drx eB)] (stA 1).1 (bd eB (stA 1).1):=zg8 0 0 [(98,98)] [] (stA 1).1 ⟨rfl,by simp[stA]⟩ (by decide)
 rw[z1n] at hA hB ⊢
 refine z7d fun H hH hG1 hG2 hQ1 hQ2=>?_
 have t:Tb:=tz
 have hH0:=hH ((0,600),bbx 601 602) (by simp)
 have hH1:=hH ((0,601),lvr []) (by simp)
 have hH2:=hH ((0,602),fwr []) (by simp)
 refine z4r Tryz.func105 (by kernel_rfl) rfl (by simp) ?_
 dsimp only[Tryz.f105]
 refine z3u 600 0 600 hH0 ?_
 refine z2l 601 0 601 (z0i hH1 (by simp)) rfl rfl ?_
 refine z2l 602 0 602 (z0i (z0i hH2 (by simp)) (by simp)) rfl rfl ?_
 refine z4e 100601 rfl ?_
 refine z4e 100602 rfl ?_
 repeat' (first|(apply z07;(first|refine z0r ?_| (apply z0b;(refine z02 z1i rfl rfl ?_))|(apply z0e;(refine z02 z0q rfl rfl ?_))|(apply z11;(refine z02 (z1k rfl) rfl rfl ?_))|(apply z0c;(refine z22 ?_))|(apply z0g;(refine z0a z16 ?_))|(apply z1s;(refine z0a z5a ?_))|(apply z10;(refine z23 ?_))))|(apply z08;(first|refine z0p ?_|apply z09))|(apply z05;(first|apply z06|apply z00|refine z1c ?_| refine z0w ?_| apply z01)))
 all_goals try (exfalso;omega)
 refine z1f ?_
 refine z0d (z25 (fun q:Nat=>⟨98,[(0,.ptr (0,600) 0),(3,.ptr (0,3) 0),(4,.ptr (0,4) 0),(6,.ptr (0,6) 0),(50,.d (.slice (ksA.map rxc))),(51,I .i64 ((2:Nat):Int)),(52,I .i64 (q:Nat)),(100600,.al (0,600) (1,600))],[(4,ptb ptN),(6,ptb (stA q).2),(600,bbx 601 602),(601,lvr (stA q).1.lv),(602,fwr (stA q).1.fo)],U3 H⟩)
  (fun q=>q≤2) (fun q=>2-q) ?_ 0 (zAf _)) rfl rfl
 intro q i1 ih
 by_cases hlt:q<2
 · obtain⟨k,t',p,t1,z,hki,hst,hk1,hp,hz,hfo,hfx,hnx⟩:∃ (k:Rx) (t':Tb) (p:Pt) (t1:Tb) (z:Pt),ksA[q]? =some k∧stA q=(t',p)∧zbn 105 [.d (.agg (rx5 k.op k.mn k.mx k.rs k.ks))] t' (t1,z)∧(p.f<2 ^ 64∧p.l<2 ^ 64)∧(z.f<2 ^ 64∧z.l<2 ^ 64)∧t1.fo.length≤64∧(∀ x∈t1.fo,x<2 ^ 64)∧stA (q+1)=z8w p z t1:=by
    rcases (show q=0∨q=1 by omega) with rfl|rfl
    · exact⟨eA,tz,ptE,⟨[[(97,97)]],[0]⟩,⟨1,1,false⟩,rfl,rfl,hA,by decide,by decide,by decide,by decide,rfl⟩
    · exact⟨eB,⟨[[(97,97)]],[0]⟩,⟨1,1,false⟩,⟨[[(97,97)],[(98,98)]],[0,0]⟩,⟨2,2,false⟩,rfl,rfl,hB,by decide,by decide,by decide,by decide,rfl⟩
   have ih':=ih (q+1) (by omega) (by omega)
   rw[hnx] at ih'
   rw[hst]
   clear hA hB ih
   obtain⟨ok,mk,xk,rk,kk⟩:=k
   simp only[Rx.op,Rx.mn,Rx.mx,Rx.rs,Rx.ks] at hk1
   dsimp only[zbn,hks] at hk1
   have hcc:=zew (X:=600) (Y:=603) (Z:=604) (by decide) t1.fo p z hp.1 hp.2 hz.1 hz.2 hfo hfx t1.lv 0
   generalize ksA=ks at *
   all_goals exact zD22
 · obtain rfl:q=2:=by omega
   clear ih
   repeat' (first|(apply z07;(first|refine z0r ?_| (apply z0b;(refine z02 z1y rfl rfl ?_))|(apply z0c;(refine z22 ?_))))|(apply z08;(first|refine z0p ?_|apply z09))|(apply z05;(first|apply z06|apply z00|refine z0w ?_| refine z0l ?_)))
   all_goals exact zD13
abbrev tS:Tb × Pt:=(⟨[[(97,97)],[(98,98)]],[2,1]⟩,⟨1,2,true⟩)
theorem zyh:zbn 120 [.d (Drx eSt)] tz tS:=by
 have hA:=y24
 obtain⟨t1,q,hB,qf,ql,h64,hfx,hS⟩:∃ (t1:Tb) (q:Pt),stA 2=(t1,q)∧q.f<2 ^ 64∧q.l<2 ^ 64∧t1.fo.length≤64∧(∀ x∈t1.fo,x<2 ^ 64)∧tS=(link t1 q.l q.f,⟨q.f,q.l,true⟩):=⟨_,_,rfl,by decide,by decide,by decide,by decide,rfl⟩
 rw[hB] at hA
 rw[hS]
 have hlk:=zms (X:=600) (Y:=601) (Z:=602) (by decide) t1.fo q.l q.f ql qf h64 hfx 0
 rw[show eSt=.mk 4 0 (-1) [] [eAB] from rfl]
 obtain⟨ok,mk,xk,rk,kk,hk⟩:∃ ok mk xk rk kk,eAB=.mk ok mk xk rk kk:=⟨_,_,_,_,_,rfl⟩
 rw[hk] at hA ⊢
 rw[z1n] at hA
 rw[z1n,zqn]
 dsimp only[zbn,hks] at hA
 refine z7d fun H hH hG1 hG2 hQ1 hQ2=>?_
 have hH0:=hH ((0,600),bbx 601 602) (by simp)
 have hH1:=hH ((0,601),lvr []) (by simp)
 have hH2:=hH ((0,602),fwr []) (by simp)
 refine z4r Tryz.func120 (by kernel_rfl) rfl (by simp) ?_
 dsimp only[Tryz.f120]
 refine z3u 600 0 600 hH0 ?_
 refine z2l 601 0 601 (z0i hH1 (by simp)) rfl rfl ?_
 refine z2l 602 0 602 (z0i (z0i hH2 (by simp)) (by simp)) rfl rfl ?_
 refine z4e 100601 rfl ?_
 refine z4e 100602 rfl ?_
 repeat' (first|(apply z07;(first|refine z0r ?_| (apply z0b;(refine z02 z1i rfl rfl ?_))|(apply z0e;(refine z02 z0q rfl rfl ?_))|(apply z0c;(refine z22 ?_))|(apply z0g;(refine z0a z16 ?_))|(apply z1s;(refine z0a z5a ?_))|(apply z10;(refine z23 ?_))))|(apply z08;(first|refine z0p ?_|apply z09))|(apply z05;(first|apply z06|apply z00|apply z01)))
 refine z1f ?_
 refine z0d (z25 (fun q:Nat=>⟨98,[(0,.ptr (0,600) 0),(3,.ptr (0,3) 0),(4,.ptr (0,4) 0),(5,.ptr (0,5) 0),(11,I .i64 0),(12,I .i64 (q:Nat)),(100600,.al (0,600) (1,600))],[(3,.box ((y5p 4 0 (-1) [] (rx5 ok mk xk rk kk)).map .d)),(4,ptb ptN),(5,ptb ptE),(600,bbx 601 602),(601,lvr []),(602,fwr [])],U3 H⟩)
  (fun q=>q=0) (fun q=>q) ?_ 0 rfl) rfl rfl
 intro q i1 ih
 clear ih
 subst i1
 repeat' (first|(apply z07;(first|refine z83 hA rfl rfl rfl (by decide) rfl rfl rfl (by decide) rfl rfl rfl rfl ?_|refine z0r ?_| (apply z0b;(first|refine z02 z1i rfl rfl ?_| refine z02 z1z rfl rfl ?_| refine z02 z1y rfl rfl ?_))|(apply z0e;(refine z02 z0q rfl rfl ?_))|(apply z0m;(refine z02 (z4p (ys:=[rx5 ok mk xk rk kk]) rfl (by omega) rfl rfl) rfl rfl ?_))|(apply z0s;(refine z3f hlk rfl rfl rfl (by decide) ?_))|(apply z0c;(refine z22 ?_))))|(apply z08;(first|refine z0p ?_|apply z09))|(apply z05;(first|apply z06|apply z00|refine z1c ?_| refine z0w ?_| apply z01|apply z03|refine z0l ?_)))
 all_goals exact zD12
theorem y32:zbn 105 [.d (Drx eSt)] tz tS:=zmo 4 0 (-1) [] [eAB] (by decide) (by decide) (by decide) tz tS zyh
end Go.Proofs.YthdfkabdoidjfaaGreatDoor
