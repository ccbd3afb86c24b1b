/- A part of the proof: P1 to P3. -/
import Derived.Test.YthdfkabdoidjfaaGreatDoorUc
import Derived.Test.YthdfkabdoidjfaaGreatDoorUs
import Derived.Test.YthdfkabdoidjfaaGreatDoorUr
import Derived.Test.YthdfkabdoidjfaaGreatDoorUp
import Derived.Test.YthdfkabdoidjfaaGreatDoorUq
set_option linter.all false
namespace Go.Proofs.YthdfkabdoidjfaaGreatDoor
open Go.Ab Go.Rx
set_option maxHeartbeats 20000000
set_option maxRecDepth 100000
attribute [local irreducible] Run Ops Op1 z1d Val Tr z08 z13 NF Rel z2h z2g
abbrev sA:ByteArray:=⟨#[40,97,98,41,42]⟩
theorem hsA:sA.size≤1000000:=by decide
section
variable {X:Nat} (hX0:X≠700) (hX1:X≠701) (τ:Tab)
include hX0 hX1
theorem zzp (i:Nat) (c:Int) (hi:i<sA.size) (hx:nx (rst sA i)=c) (hc:97≤c∧c≤98) (hw:(Utf8.decode sA i).2=1) (e0:Nat) :
 z13 Tryz.prog 150 [.ptr (e0,X) 0,S (spB spA)] (((e0,X),pbx sA i 0 0)::zfw τ (e0+1)) [((e0,X),pbx sA ((i+1:Nat):Int) 0 0)] (.tup [I .i32 c,B true]):=by
 refine z1e fun H hH=>?_
 have hX:H e0 X=some (pbx sA i 0 0):=hH ((e0,X),pbx sA i 0 0) (by simp)
 have hT:HT τ (e0+1) H:=HT.of (bs:=[((e0,X),pbx sA i 0 0)]) hH
 have hn:=z5f (X:=X) τ sA i (by omega) 0 0 (e0+1)
 have hsk:=y3d (X:=X) τ sA i hi hsA 0 0 (e0+1)
 rw[hx] at hn
 rw[hw] at hsk
 refine z03 Tryz.func150 (by kernel_rfl) rfl (by simp) ?_
 dsimp only[Tryz.f150]
 repeat' (first|(apply z1c;(refine z2m rfl hX rfl rfl rfl rfl (by decide) ?_))|(apply z06;(first|refine z5j hsk rfl hX (bkT (by repeat (first|exact hT|refine HT.upd ?_ hX0 hX1))) (by decide) ?_|refine z34 hn rfl (z2i (m:=(e0+1,X)) hX (bkT (by repeat (first|exact hT|refine HT.upd ?_ hX0 hX1)))) (by decide) ?_))|refine stq ?_|refine fk (fun _=>?_) (fun _=>?_))
 all_goals try (exfalso;omega)
 all_goals ((repeat rw[z3e]);first|exact z05 Tryz.func150 _ (z0i rfl rfl rfl rfl rfl rfl rfl) ⟨rfl,rfl⟩|exact z05 Tryz.func150 _ z2w ⟨rfl,rfl⟩|exact z05 Tryz.func150 _ z0e ⟨rfl,rfl⟩|exact z05 Tryz.func150 _ (res_three rfl rfl rfl rfl) ⟨rfl,rfl⟩)
theorem y0w (i:Nat) (c:Int) (hi:i<sA.size) (hx:nx (rst sA i)=c) (hc:97≤c∧c≤98) (hw:(Utf8.decode sA i).2=1) (e0:Nat) :
 z13 Tryz.prog 138 [.ptr (e0,X) 0] (((e0,X),pbx sA i 0 0)::zfw τ (e0+1)) [((e0,X),pbx sA ((i+1:Nat):Int) 0 0)] (.tup [.d (eX (Rx.one c c)),B true]):=by
 refine z1e fun H hH=>?_
 have hX:H e0 X=some (pbx sA i 0 0):=hH ((e0,X),pbx sA i 0 0) (by simp)
 have hT:HT τ (e0+1) H:=HT.of (bs:=[((e0,X),pbx sA i 0 0)]) hH
 have hn:=z5f (X:=X) τ sA i (by omega) 0 0 (e0+1)
 have hcr:=zdn y97 (nx (rst sA i)) (zxx sA i).1 (zxx sA i).2
 have ho:=y7l c c
 have hch:=zzp hX0 hX1 τ i c hi hx hc hw (e0+1)
 refine z03 Tryz.func138 (by kernel_rfl) rfl (by simp) ?_
 dsimp only[Tryz.f138]
 rw[zrm] at ho ⊢
 rw[hx] at hn hcr
 rw[show spA.contains c=false from by rcases (show c=97∨c=98 by omega) with rfl|rfl <;> rfl] at hcr
 repeat' (first|(apply z1c;(refine z2m rfl hX rfl rfl rfl rfl (by decide) ?_))|(apply z06;(first|refine z5j hch rfl hX (bkT (by repeat (first|exact hT|refine HT.upd ?_ hX0 hX1))) (by decide) ?_|refine z34 hn rfl (z2i (m:=(e0+1,X)) hX (bkT (by repeat (first|exact hT|refine HT.upd ?_ hX0 hX1)))) (by decide) ?_|refine z1i hcr ?_| refine z1i ho ?_))|refine stq ?_|refine fk (fun _=>?_) (fun _=>?_))
 all_goals exact zD71
theorem zxn (i:Nat) (c d:Int) (hi:i<sA.size) (hx:nx (rst sA i)=c) (hc:97≤c∧c≤98) (hw:(Utf8.decode sA i).2=1) (hd:nx (rst sA (i+1))=d) (hdd:d=98∨d=41) (e0:Nat) :
 z13 Tryz.prog 123 [.ptr (e0,X) 0] (((e0,X),pbx sA i 0 0)::zfw τ (e0+1)) [((e0,X),pbx sA ((i+1:Nat):Int) 0 0)] (.tup [.d (eX (Rx.one c c)),B true]):=by
 refine z1e fun H hH=>?_
 have hX:H e0 X=some (pbx sA i 0 0):=hH ((e0,X),pbx sA i 0 0) (by simp)
 have hT:HT τ (e0+1) H:=HT.of (bs:=[((e0,X),pbx sA i 0 0)]) hH
 have ha:=y0w hX0 hX1 τ i c hi hx hc hw (e0+1)
 have hn:=z5f (X:=X) τ sA (i+1) (by omega) 0 0 (e0+1)
 rw[hd] at hn
 refine z03 Tryz.func123 (by kernel_rfl) rfl (by simp) ?_
 dsimp only[Tryz.f123]
 rw[zrm] at ha ⊢
 repeat' (first|(apply z06;(refine z5j ha rfl hX (bkT (by repeat (first|exact hT|refine HT.upd ?_ hX0 hX1))) (by decide) ?_))|refine stq ?_|fail)
 all_goals try (exfalso;omega)
 refine z0a ?_
 refine z3c ?_
 repeat' (first|(apply z1c;(refine z2m rfl (z2v _ (e0,X) _) rfl rfl rfl rfl (by decide) ?_))|(apply z06;(refine z34 hn rfl (z2i (m:=(e0+1,X)) (z2v _ (e0,X) _) (bkT (by repeat (first|exact hT|refine HT.upd ?_ hX0 hX1)))) (by decide) ?_))|refine stq ?_|refine fk (fun _=>?_) (fun _=>?_))
 all_goals exact zD72
abbrev eA:Rx:=.mk 1 0 0 [(97,97)] []
abbrev eB:Rx:=.mk 1 0 0 [(98,98)] []
abbrev eAB:Rx:=.mk 2 0 0 [] [eA,eB]
abbrev bx2:Nat × Blk:=(2,.box (z5x [Value.int .i64 0,Value.int .i64 0,Value.int .i64 0,z2c,z2c]))
theorem y4c (e0:Nat) :
 z13 Tryz.prog 109 [.ptr (e0,X) 0] (((e0,X),pbx sA 1 0 0)::zfw τ (e0+1)) [((e0,X),pbx sA 3 0 0)] (.tup [.d (eX eAB),B true]):=by
 refine z1e fun H hH=>?_
 have hX:H e0 X=some (pbx sA 1 0 0):=hH ((e0,X),pbx sA 1 0 0) (by simp)
 have hT:HT τ (e0+1) H:=HT.of (bs:=[((e0,X),pbx sA 1 0 0)]) hH
 have h1:=zxn hX0 hX1 τ 1 97 98 (by decide) (by rfl) (by decide) (by rfl) (by rfl) (.inl rfl) (e0+1)
 have h2:=zxn hX0 hX1 τ 2 98 41 (by decide) (by rfl) (by decide) (by rfl) (by rfl) (.inr rfl) (e0+1)
 have hn1:=z5f (X:=X) τ sA 1 (by decide) 0 0 (e0+1)
 have hn2:=z5f (X:=X) τ sA 2 (by decide) 0 0 (e0+1)
 have hn3:=z5f (X:=X) τ sA 3 (by decide) 0 0 (e0+1)
 rw[show nx (rst sA 1)=97 from rfl] at hn1
 rw[show nx (rst sA 2)=98 from rfl] at hn2
 rw[show nx (rst sA 3)=41 from rfl] at hn3
 refine z03 Tryz.func109 (by kernel_rfl) rfl (by simp) ?_
 dsimp only[Tryz.f109]
 rw[zrm] at h1 h2
 rw[zgo]
 repeat' (first|(apply z06;(refine z34 hn1 rfl (z2i (m:=(e0+1,X)) hX (bkT (by repeat (first|exact hT|refine HT.upd ?_ hX0 hX1)))) (by decide) ?_))|refine stq ?_|fail)
 all_goals try (exfalso;omega)
 refine z1m 4 1000 44 5 rfl rfl rfl ?_
 refine z0a ?_
 refine z3c ?_
 repeat' (first|(apply z15;(refine z45 (g:=rxc) (q:=[]) rfl rfl eA (by rw[z3f];rfl) rfl rfl rfl (zcq _) rfl rfl (by decide) (by decide) ?_))|(apply z06;(first|refine z5j h1 rfl hX (bkT (by repeat (first|exact hT|refine HT.upd ?_ hX0 hX1))) (by decide) ?_|refine z34 hn2 rfl (z2i (m:=(e0+1,X)) (z2v _ (e0,X) _) (bkT (by repeat (first|exact hT|refine HT.upd ?_ hX0 hX1)))) (by decide) ?_))|refine stq ?_|fail)
 all_goals try (exfalso;omega)
 refine z18 40 1000 ?_
 refine z00 (tm':=[(0,.ptr (e0+1,X) 0),(2,.ptr (0,2) 0),(4,.ref (0,1000)),(5,I .i32 98)]) (hp':=[(1000,.row 44 5 ([eA].map rxc)),bx2]) ?_ rfl rfl
 refine z3c ?_
 repeat' (first|(apply z15;(refine z45 (g:=rxc) (q:=[eA]) rfl rfl eB (by rw[z3f];rfl) rfl rfl rfl (zcq _) rfl rfl (by decide) (by decide) ?_))|(apply z06;(first|refine z5j h2 rfl (z2v _ (e0,X) _) (bkT (by repeat (first|exact hT|refine HT.upd ?_ hX0 hX1))) (by decide) ?_|refine z34 hn3 rfl (z2i (m:=(e0+1,X)) (z2v _ (e0,X) _) (bkT (by repeat (first|exact hT|refine HT.upd ?_ hX0 hX1)))) (by decide) ?_))|refine stq ?_|fail)
 all_goals try (exfalso;omega)
 refine z18 40 1000 ?_
 refine z00 (tm':=[(0,.ptr (e0+1,X) 0),(2,.ptr (0,2) 0),(4,.ref (0,1000)),(5,I .i32 41)]) (hp':=[(1000,.row 44 5 ([eA,eB].map rxc)),bx2]) ?_ rfl rfl
 refine z0o 1000 rfl ?_
 refine z3c ?_
 repeat' (first|refine stq ?_|fail)
 all_goals exact zD73
theorem y8n (e0:Nat) :
 z13 Tryz.prog 70 [.ptr (e0,X) 0] (((e0,X),pbx sA 1 0 0)::zfw τ (e0+1)) [((e0,X),pbx sA 3 0 0)] (.tup [.d (eX eAB),B true]):=by
 refine z1e fun H hH=>?_
 have hX:H e0 X=some (pbx sA 1 0 0):=hH ((e0,X),pbx sA 1 0 0) (by simp)
 have hT:HT τ (e0+1) H:=HT.of (bs:=[((e0,X),pbx sA 1 0 0)]) hH
 have hr:=y4c hX0 hX1 τ (e0+1)
 have hn:=z5f (X:=X) τ sA 3 (by decide) 0 0 (e0+1)
 rw[show nx (rst sA 3)=41 from rfl] at hn
 refine z03 Tryz.func70 (by kernel_rfl) rfl (by simp) ?_
 dsimp only[Tryz.f70]
 rw[zgo] at hr ⊢
 repeat' (first|refine stq ?_|fail)
 all_goals try (exfalso;omega)
 refine z1m 4 1000 44 5 rfl rfl rfl ?_
 refine z0a ?_
 refine z3c ?_
 repeat' (first|(apply z01;(refine z04 (z4f (u:=rx5 2 0 0 [] [eA,eB]) rfl (by omega) rfl rfl) rfl rfl ?_))|(apply z15;(refine z45 (g:=rxc) (q:=[]) rfl rfl eAB (by rw[z3f];rfl) rfl rfl rfl (zcq _) rfl rfl (by decide) (by decide) ?_))|(apply z06;(first|(refine z34 hn rfl (z2i (m:=(e0+1,X)) (z2v _ (e0,X) _) (bkT (by repeat (first|exact hT|refine HT.upd ?_ hX0 hX1)))) (by decide) ?_;refine zbi 25 rfl ?_;rw[List.nil_append,List.map_cons,List.map_nil,z3f])|refine z5j hr rfl hX (bkT (by repeat (first|exact hT|refine HT.upd ?_ hX0 hX1))) (by decide) ?_))|refine stq ?_|fail)
 all_goals exact zD74
theorem y0y (e0:Nat) :
 z13 Tryz.prog 138 [.ptr (e0,X) 0] (((e0,X),pbx sA 0 0 0)::zfw τ (e0+1)) [((e0,X),pbx sA 4 0 0)] (.tup [.d (eX eAB),B true]):=by
 refine z1e fun H hH=>?_
 have hX:H e0 X=some (pbx sA 0 0 0):=hH ((e0,X),pbx sA 0 0 0) (by simp)
 have hT:HT τ (e0+1) H:=HT.of (bs:=[((e0,X),pbx sA 0 0 0)]) hH
 have hu:=y8n hX0 hX1 τ (e0+1)
 have hn:=z5f (X:=X) τ sA 0 (by decide) 0 0 (e0+1)
 rw[show nx (rst sA 0)=40 from rfl] at hn
 have heat:=y8o hX0 hX1 τ sA hsA 3 (by decide) 41 (by decide) (by decide) (e0+1)
 rw[show nx (rst sA 3)=41 from rfl,zAz rfl,zAi rfl] at heat
 refine z03 Tryz.func138 (by kernel_rfl) rfl (by simp) ?_
 dsimp only[Tryz.f138]
 rw[zgo] at hu ⊢
 repeat' (first|(apply z1c;(refine z2m rfl hX rfl rfl rfl rfl (by decide) ?_))|(apply z06;(first|refine z5j hu rfl (z2v _ (e0,X) _) (bkT (by repeat (first|exact hT|refine HT.upd ?_ hX0 hX1))) (by decide) ?_|refine z34 hn rfl (z2i (m:=(e0+1,X)) hX (bkT (by repeat (first|exact hT|refine HT.upd ?_ hX0 hX1)))) (by decide) ?_))|(apply z0l;(refine y0l heat (by first|exact rfl|exact⟨_,rfl,rfl,rfl⟩) rfl (z2v _ (e0,X) _) (bkT (by repeat (first|exact hT|refine HT.upd ?_ hX0 hX1))) (by decide) ?_))|(apply z0n;(refine z3q (raw':=pbx sA 1 0 0) rfl hX rfl rfl rfl rfl rfl rfl ?_))|refine stq ?_|fail)
 all_goals exact zD71
abbrev eSt:Rx:=.mk 4 0 (-1) [] [eAB]
theorem y5e (e0:Nat) :
 z13 Tryz.prog 123 [.ptr (e0,X) 0] (((e0,X),pbx sA 0 0 0)::zfw τ (e0+1)) [((e0,X),pbx sA 5 0 0)] (.tup [.d (eX eSt),B true]):=by
 refine z1e fun H hH=>?_
 have hX:H e0 X=some (pbx sA 0 0 0):=hH ((e0,X),pbx sA 0 0 0) (by simp)
 have hT:HT τ (e0+1) H:=HT.of (bs:=[((e0,X),pbx sA 0 0 0)]) hH
 have ha:=y0y hX0 hX1 τ (e0+1)
 have hn:=z5f (X:=X) τ sA 4 (by decide) 0 0 (e0+1)
 have hn5:=z5f (X:=X) τ sA 5 (by decide) 0 0 (e0+1)
 rw[show nx (rst sA 4)=42 from rfl] at hn
 rw[show nx (rst sA 5)=-1 from rfl] at hn5
 refine z03 Tryz.func123 (by kernel_rfl) rfl (by simp) ?_
 dsimp only[Tryz.f123]
 rw[zgo] at ha ⊢
 rw[show rx5 4 0 (-1) [] [eAB]=[z0u 4,z0u 0,z0u (-1),rgs [],.slice [rx5 2 0 0 [] [eA,eB]]] by rw[rx5,List.map_cons,List.map_nil,z3f]]
 repeat' (first|(apply z06;(refine z5j ha rfl hX (bkT (by repeat (first|exact hT|refine HT.upd ?_ hX0 hX1))) (by decide) ?_))|refine stq ?_|fail)
 all_goals try (exfalso;omega)
 refine z0a ?_
 refine z3c ?_
 repeat' (first|(apply z1c;(refine z2m rfl (z2v _ (e0,X) _) rfl rfl rfl rfl (by decide) ?_))|(apply z06;(refine z34 hn rfl (z2i (m:=(e0+1,X)) (z2v _ (e0,X) _) (bkT (by repeat (first|exact hT|refine HT.upd ?_ hX0 hX1)))) (by decide) ?_))|(apply z0n;(refine z3q (raw':=pbx sA 5 0 0) rfl (z2v _ (e0,X) _) rfl rfl rfl rfl rfl rfl ?_))|refine stq ?_|fail)
 all_goals try (exfalso;omega)
 refine z3c ?_
 repeat' (first|(apply z06;(refine z34 hn5 rfl (z2i (m:=(e0+1,X)) (z2v _ (e0,X) _) (bkT (by repeat (first|exact hT|refine HT.upd ?_ hX0 hX1)))) (by decide) ?_))|refine stq ?_|fail)
 all_goals exact zD72
theorem y34 (e0:Nat) :
 z13 Tryz.prog 109 [.ptr (e0,X) 0] (((e0,X),pbx sA 0 0 0)::zfw τ (e0+1)) [((e0,X),pbx sA 5 0 0)] (.tup [.d (eX eSt),B true]):=by
 refine z1e fun H hH=>?_
 have hX:H e0 X=some (pbx sA 0 0 0):=hH ((e0,X),pbx sA 0 0 0) (by simp)
 have hT:HT τ (e0+1) H:=HT.of (bs:=[((e0,X),pbx sA 0 0 0)]) hH
 have h1:=y5e hX0 hX1 τ (e0+1)
 have hn1:=z5f (X:=X) τ sA 0 (by decide) 0 0 (e0+1)
 have hn2:=z5f (X:=X) τ sA 5 (by decide) 0 0 (e0+1)
 rw[show nx (rst sA 0)=40 from rfl] at hn1
 rw[show nx (rst sA 5)=-1 from rfl] at hn2
 refine z03 Tryz.func109 (by kernel_rfl) rfl (by simp) ?_
 dsimp only[Tryz.f109]
 rw[zgo] at h1 ⊢
 repeat' (first|(apply z06;(refine z34 hn1 rfl (z2i (m:=(e0+1,X)) hX (bkT (by repeat (first|exact hT|refine HT.upd ?_ hX0 hX1)))) (by decide) ?_))|refine stq ?_|fail)
 all_goals try (exfalso;omega)
 refine z1m 4 1000 44 5 rfl rfl rfl ?_
 refine z0a ?_
 refine z3c ?_
 repeat' (first|(apply z15;(refine z45 (g:=rxc) (q:=[]) rfl rfl eSt (by rw[z3f];rfl) rfl rfl rfl (zcq _) rfl rfl (by decide) (by decide) ?_))|(apply z06;(first|refine z5j h1 rfl hX (bkT (by repeat (first|exact hT|refine HT.upd ?_ hX0 hX1))) (by decide) ?_|refine z34 hn2 rfl (z2i (m:=(e0+1,X)) (z2v _ (e0,X) _) (bkT (by repeat (first|exact hT|refine HT.upd ?_ hX0 hX1)))) (by decide) ?_))|refine stq ?_|fail)
 all_goals try (exfalso;omega)
 refine z18 40 1000 ?_
 refine z00 (tm':=[(0,.ptr (e0+1,X) 0),(2,.ptr (0,2) 0),(4,.ref (0,1000)),(5,I .i32 (-1))]) (hp':=[(1000,.row 44 5 ([eSt].map rxc)),bx2]) ?_ rfl rfl
 rw[List.map_cons,List.map_nil,z3f]
 refine z0o 1000 rfl ?_
 refine z3c ?_
 repeat' (first|(apply z01;(refine z04 (z4f (u:=rx5 4 0 (-1) [] [eAB]) rfl (by omega) rfl rfl) rfl rfl ?_))|refine stq ?_|fail)
 all_goals exact zD73
theorem y88 (e0:Nat) :
 z13 Tryz.prog 70 [.ptr (e0,X) 0] (((e0,X),pbx sA 0 0 0)::zfw τ (e0+1)) [((e0,X),pbx sA 5 0 0)] (.tup [.d (eX eSt),B true]):=by
 refine z1e fun H hH=>?_
 have hX:H e0 X=some (pbx sA 0 0 0):=hH ((e0,X),pbx sA 0 0 0) (by simp)
 have hT:HT τ (e0+1) H:=HT.of (bs:=[((e0,X),pbx sA 0 0 0)]) hH
 have hr:=y34 hX0 hX1 τ (e0+1)
 have hn:=z5f (X:=X) τ sA 5 (by decide) 0 0 (e0+1)
 rw[show nx (rst sA 5)=-1 from rfl] at hn
 refine z03 Tryz.func70 (by kernel_rfl) rfl (by simp) ?_
 dsimp only[Tryz.f70]
 rw[zgo] at hr ⊢
 repeat' (first|refine stq ?_|fail)
 all_goals try (exfalso;omega)
 refine z1m 4 1000 44 5 rfl rfl rfl ?_
 refine z0a ?_
 refine z3c ?_
 repeat' (first|(apply z01;(refine z04 (z4f (u:=rx5 4 0 (-1) [] [eAB]) rfl (by omega) rfl rfl) rfl rfl ?_))|(apply z15;(refine z45 (g:=rxc) (q:=[]) rfl rfl eSt (by rw[z3f];rfl) rfl rfl rfl (zcq _) rfl rfl (by decide) (by decide) ?_))|(apply z06;(first|(refine z34 hn rfl (z2i (m:=(e0+1,X)) (z2v _ (e0,X) _) (bkT (by repeat (first|exact hT|refine HT.upd ?_ hX0 hX1)))) (by decide) ?_;refine zbi 25 rfl ?_;rw[List.nil_append,List.map_cons,List.map_nil,z3f])|refine z5j hr rfl hX (bkT (by repeat (first|exact hT|refine HT.upd ?_ hX0 hX1))) (by decide) ?_))|refine stq ?_|fail)
 all_goals exact zD74
end
theorem y0c {P:Program} {f:FuncId} {R:z2t} {k:List Item} {all:Array Oper} {l:List Oper} {n:Nat} {tm:List (Nat × PV)} {hp:Hp} {up:Hf} {d:Nat} {ty:TypeId} {pos:String} {aft:Array Edge} {gd:Option (Nat × Bool)} {p:PV} {g:FuncId} {args:List Operand} {ps:List PV} {ats:Array TypeId} {ms:Nat} {b b':Blk} {bs:List (Nm × Blk)}
 (hsp:z13 P g ps (((0,ms),b)::bs) [((0,ms),b')] p) (hev:St.evs ⟨n,tm,hp,up⟩ args=some ps) (hb:Ab.look hp ms=some b) (hbs:BkE ⟨n,tm,hp,up⟩ bs) (hd:d<n)
 (h:Ops P f R all l k ⟨n,(d,p)::tm,(ms,b')::hp,up⟩):Op1 P f R all ⟨some d,.call ⟨.value (.func g),args.toArray,ats⟩,ty,pos,aft,gd⟩ l k ⟨n,tm,hp,up⟩ :=
 zjg hsp hev (z2i (m:=(0,ms)) hb hbs) hd rfl h
theorem zww (τ:Tab):z13 Tryz.prog 39 [S sA] (zfw τ 0) [] (.tup [.d (eX eSt),I .i64 0,I .i64 0]):=by
 refine z1e fun H hH=>?_
 have hT:HT τ 0 H:=HT.of (bs:=[]) hH
 have hv:=zec eSt (by simp[fit,y2q])
 rw[show val eSt=0 from rfl,show Drx eSt=.agg (rx5 4 0 (-1) [] [eAB]) from zgo _ _ _ _ _] at hv
 have hu:=y88 (X:=10) (by decide) (by decide) τ 0
 rw[zgo] at hu ⊢
 refine z03 Tryz.func39 (by kernel_rfl) rfl (by simp) ?_
 dsimp only[Tryz.f39]
 have h5:¬ 200<sA.size:=by decide
 repeat' (first|refine stq ?_|fail)
 all_goals try (exfalso;omega)
 obtain⟨L,hL⟩:∃ L,unF 0 (rst sA 0)=L:=⟨_,rfl⟩
 have hok:∀ u∈L,¬ (u.1=65533∧u.2.2=1):=by rw[← hL,show unF 0 (rst sA 0)=[(40,0,1),(97,1,1),(98,2,1),(41,3,1),(42,4,1)] from rfl];decide
 have hll:L.length=5:=by rw[← hL];rfl
 refine z0a ?_
 refine z00 (z0p (fun q:Nat=>⟨66,[(0,S sA),(2,.ptr (0,2) 0),(5,I .i64 (q:Nat))],[(2,.box (z5x [Value.int .i64 0,Value.int .i64 0,Value.int .i64 0,z2c,z2c]))],H⟩)
  (fun q=>q≤L.length) (fun q=>L.length-q) ?_ 0 (zAf _)) rfl rfl
 intro q i1 ih
 have hat:=y9k sA hsA q (by omega)
 rw[atR,hL] at hat
 by_cases hlt:q<L.length
 · obtain⟨u,hu⟩:∃ u,L[q]? =some u:=⟨_,zA0 hlt⟩
   rw[hu] at hat
   simp only at hat
   have hnb:=hok u (zA2 hu)
   repeat' (first|(apply z06;(refine z1i hat ?_))|refine stq ?_|refine fk (fun _=>?_) (fun _=>?_))
   all_goals try (exfalso;omega)
   all_goals exact z00 (ih (q+1) (by omega) (by omega)) rfl rfl
 · obtain rfl:q=L.length:=by omega
   rw[zAv (zAj _)] at hat
   simp only at hat
   clear ih
   repeat' (first|(apply z06;(first|refine y0c hu rfl rfl (bkT hT) (by decide) ?_|refine z1i hat ?_| refine z1i hv ?_))|refine stq ?_|fail)
   all_goals try (exfalso;omega)
   all_goals exact z05 Tryz.func39 _ (zhw rfl rfl rfl rfl rfl rfl rfl rfl) ⟨rfl,rfl⟩
attribute [local irreducible] zb9
abbrev tz:Tb:=⟨[],[]⟩
abbrev ksA:List Rx:=[eA,eB]
def stA:Nat→Tb × Pt
 | 0=>(tz,ptE)
 | 1=>(⟨[[(97,97)]],[0]⟩,⟨1,1,false⟩)
 | _=>(⟨[[(97,97)],[(98,98)]],[2,0]⟩,⟨1,2,false⟩)
theorem y36:ziw 105 [.d (Drx eAB)] tz (stA 2):=by
 have hA:ziw 105 [.d (Drx eA)] tz (bd eA tz):=zm7 0 0 [(97,97)] [] tz ⟨rfl,by simp⟩ (by decide)
 have hB:ziw 105 [.d (Drx eB)] (stA 1).1 (bd eB (stA 1).1):=zm7 0 0 [(98,98)] [] (stA 1).1 ⟨rfl,by simp[stA]⟩ (by decide)
 rw[zc3] at hA hB ⊢
 refine zf9 fun H hH hG1 hG2 hQ1 hQ2=>?_
 have t:Tb:=tz
 have hH0:=hH ((0,600),bbx 601 602) (by simp)
 have hH1:=hH ((0,601),lvr []) (by simp)
 have hH2:=hH ((0,602),fwr []) (by simp)
 refine z6a Tryz.func105 (by kernel_rfl) rfl (by simp) ?_
 dsimp only[Tryz.f105]
 refine z99 600 0 600 hH0 ?_
 refine z1o 601 0 601 (z0q hH1 (by simp)) rfl rfl ?_
 refine z1o 602 0 602 (z0q (z0q hH2 (by simp)) (by simp)) rfl rfl ?_
 refine z6x 100601 rfl ?_
 refine z6x 100602 rfl ?_
 repeat' (first|refine stq ?_|fail)
 all_goals try (exfalso;omega)
 refine z0a ?_
 refine z00 (z0p (fun q:Nat=>⟨98,[(0,.ptr (0,600) 0),(3,.ptr (0,3) 0),(4,.ptr (0,4) 0),(6,.ptr (0,6) 0),(50,.d (.slice (ksA.map rxc))),(51,I .i64 ((2:Nat):Int)),(52,I .i64 (q:Nat)),(100600,.al (0,600) (1,600))],[(4,ptb ptN),(6,ptb (stA q).2),(600,bbx 601 602),(601,lvr (stA q).1.lv),(602,fwr (stA q).1.fo)],U3 H⟩)
  (fun q=>q≤2) (fun q=>2-q) ?_ 0 (zAf _)) rfl rfl
 intro q i1 ih
 by_cases hlt:q<2
 · obtain⟨k,t',p,t1,z,hki,hst,hk1,hp,hz,hfo,hfx,hnx⟩:∃ (k:Rx) (t':Tb) (p:Pt) (t1:Tb) (z:Pt),ksA[q]? =some k∧stA q=(t',p)∧ziw 105 [.d (.agg (rx5 k.op k.mn k.mx k.rs k.ks))] t' (t1,z)∧(p.f<2 ^ 64∧p.l<2 ^ 64)∧(z.f<2 ^ 64∧z.l<2 ^ 64)∧t1.fo.length≤64∧(∀ x∈t1.fo,x<2 ^ 64)∧stA (q+1)=zbl p z t1:=by
    rcases (show q=0∨q=1 by omega) with rfl|rfl
    · exact⟨eA,tz,ptE,⟨[[(97,97)]],[0]⟩,⟨1,1,false⟩,rfl,rfl,hA,by decide,by decide,by decide,by decide,rfl⟩
    · exact⟨eB,⟨[[(97,97)]],[0]⟩,⟨1,1,false⟩,⟨[[(97,97)],[(98,98)]],[0,0]⟩,⟨2,2,false⟩,rfl,rfl,hB,by decide,by decide,by decide,by decide,rfl⟩
   have ih':=ih (q+1) (by omega) (by omega)
   rw[hnx] at ih'
   rw[hst]
   clear hA hB ih
   obtain⟨ok,mk,xk,rk,kk⟩:=k
   simp only[Rx.op,Rx.mn,Rx.mx,Rx.rs,Rx.ks] at hk1
   dsimp only[ziw,hks] at hk1
   have hcc:=y3f (X:=600) (Y:=603) (Z:=604) (by decide) t1.fo p z hp.1 hp.2 hz.1 hz.2 hfo hfx t1.lv 0
   generalize ksA=ks at *
   repeat' (first|(apply y2s;(refine y6u hk1 (by first|exact rfl|exact⟨_,rfl,rfl,rfl⟩) rfl rfl rfl (by decide) rfl rfl rfl (by decide) ?_))|(apply z01;(refine z04 (z0k (ys:=ks.map rxc) rfl (zdy hki)) rfl rfl ?_))|(apply z0l;(refine zzc hcc (by first|exact rfl|exact⟨_,rfl,rfl,rfl⟩) rfl rfl rfl (by decide) ?_))|refine stq ?_|refine fk (fun _=>?_) (fun _=>?_))
   all_goals try (exfalso;omega)
   all_goals refine z18 603 601 ?_
   all_goals refine z18 604 602 ?_
   all_goals exact z00 ih' rfl rfl
 · obtain rfl:q=2:=by omega
   clear ih
   repeat' (first|refine stq ?_|fail)
   all_goals exact zD32
abbrev tS:Tb × Pt:=(⟨[[(97,97)],[(98,98)]],[2,1]⟩,⟨1,2,true⟩)
theorem y1k:ziw 120 [.d (Drx eSt)] tz tS:=by
 have hA:=y36
 obtain⟨t1,q,hB,qf,ql,h64,hfx,hS⟩:∃ (t1:Tb) (q:Pt),stA 2=(t1,q)∧q.f<2 ^ 64∧q.l<2 ^ 64∧t1.fo.length≤64∧(∀ x∈t1.fo,x<2 ^ 64)∧tS=(link t1 q.l q.f,⟨q.f,q.l,true⟩):=⟨_,_,rfl,by decide,by decide,by decide,by decide,rfl⟩
 rw[hB] at hA
 rw[hS]
 have hlk:=zy1 (X:=600) (Y:=601) (Z:=602) (by decide) t1.fo q.l q.f ql qf h64 hfx 0
 rw[show eSt=.mk 4 0 (-1) [] [eAB] from rfl]
 obtain⟨ok,mk,xk,rk,kk,hk⟩:∃ ok mk xk rk kk,eAB=.mk ok mk xk rk kk:=⟨_,_,_,_,_,rfl⟩
 rw[hk] at hA ⊢
 rw[zc3] at hA
 rw[zc3,zzy]
 dsimp only[ziw,hks] at hA
 refine zf9 fun H hH hG1 hG2 hQ1 hQ2=>?_
 have hH0:=hH ((0,600),bbx 601 602) (by simp)
 have hH1:=hH ((0,601),lvr []) (by simp)
 have hH2:=hH ((0,602),fwr []) (by simp)
 refine z6a Tryz.func120 (by kernel_rfl) rfl (by simp) ?_
 dsimp only[Tryz.f120]
 refine z99 600 0 600 hH0 ?_
 refine z1o 601 0 601 (z0q hH1 (by simp)) rfl rfl ?_
 refine z1o 602 0 602 (z0q (z0q hH2 (by simp)) (by simp)) rfl rfl ?_
 refine z6x 100601 rfl ?_
 refine z6x 100602 rfl ?_
 repeat' (first|refine stq ?_|fail)
 refine z0a ?_
 refine z00 (z0p (fun q:Nat=>⟨98,[(0,.ptr (0,600) 0),(3,.ptr (0,3) 0),(4,.ptr (0,4) 0),(5,.ptr (0,5) 0),(11,I .i64 0),(12,I .i64 (q:Nat)),(100600,.al (0,600) (1,600))],[(3,.box ((y8v 4 0 (-1) [] (rx5 ok mk xk rk kk)).map .d)),(4,ptb ptN),(5,ptb ptE),(600,bbx 601 602),(601,lvr []),(602,fwr [])],U3 H⟩)
  (fun q=>q=0) (fun q=>q) ?_ 0 rfl) rfl rfl
 intro q i1 ih
 clear ih
 subst i1
 repeat' (first|(apply z0y;(refine zr2 hA rfl rfl rfl (by decide) rfl rfl rfl (by decide) rfl rfl rfl rfl ?_))|(apply z01;(refine z04 (z4f (ys:=[rx5 ok mk xk rk kk]) rfl (by omega) rfl rfl) rfl rfl ?_))|(apply z06;(refine z2u hlk rfl rfl rfl (by decide) ?_))|refine stq ?_|fail)
 all_goals try (exfalso;omega)
 all_goals refine z7d 601 603 rfl (z0q (z0q (z0q hG1 (by simp)) (by simp)) (by simp)) (Or.inl rfl) rfl (Quiet.upd (Quiet.upd (Quiet.upd hQ1 rfl) rfl) rfl) ?_
 all_goals refine z7d 602 604 rfl (z0q (z0q (z0q (z0q hG2 (by simp)) (by simp)) (by simp)) (by simp)) (Or.inr rfl) rfl (Quiet.upd (Quiet.upd (Quiet.upd (Quiet.upd hQ2 rfl) rfl) rfl) rfl) ?_
 all_goals refine z3d (raw:=bbx 603 604) 600 0 600 ?_
 all_goals refine z05 Tryz.func120 _ (z39 rfl rfl rfl rfl rfl rfl) ⟨rfl,rfl⟩
theorem y44:ziw 105 [.d (Drx eSt)] tz tS:=zwn 4 0 (-1) [] [eAB] (by decide) (by decide) (by decide) tz tS y1k
end Go.Proofs.YthdfkabdoidjfaaGreatDoor
