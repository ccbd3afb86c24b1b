/- A part of the proof: P1, P2, P3. -/
import Derived.Test.YthdfkabdoidjfaaGreatDoorQs
import Derived.Test.YthdfkabdoidjfaaGreatDoorQc
import Derived.Test.YthdfkabdoidjfaaGreatDoorQr
import Derived.Test.YthdfkabdoidjfaaGreatDoorQp
import Derived.Test.YthdfkabdoidjfaaGreatDoorQq
set_option linter.all false
set_option linter.unusedVariables false
set_option linter.unusedSimpArgs false
namespace Go.Proofs.YthdfkabdoidjfaaGreatDoor
open Go.Ab Go.Rx
set_option maxHeartbeats 20000000
set_option maxRecDepth 100000
attribute [local irreducible] Run Ops Op1 z2b Val Tr z0v z2c NF Rel z3w z3x
abbrev sA:ByteArray:=⟨#[40,97,98,41,42]⟩
theorem hsA:sA.size≤1000000:=by decide
section
variable {X:Nat} (hX0:X≠700) (hX1:X≠701) (τ:Tab)
include hX0 hX1
theorem zxa (i:Nat) (c:Int) (hi:i<sA.size) (hx:nx (rst sA i)=c) (hc:97≤c∧c≤98) (hw:(Utf8.decode sA i).2=1) (e0:Nat) :
 z2c Tryz.prog 150 [.ptr (e0,X) 0,S (spB spA)] (((e0,X),pbx sA i 0 0)::zfl τ (e0+1)) [((e0,X),pbx sA ((i+1:Nat):Int) 0 0)] (.tup [I .i32 c,B true]):=by
 refine z2n fun H hH=>?_
 have hX:H e0 X=some (pbx sA i 0 0):=hH ((e0,X),pbx sA i 0 0) (by simp)
 have hT:HT τ (e0+1) H:=HT.of (bs:=[((e0,X),pbx sA i 0 0)]) hH
 have hn:=z5w (X:=X) τ sA i (by omega) 0 0 (e0+1)
 have hsk:=y0m (X:=X) τ sA i hi hsA 0 0 (e0+1)
 rw[hx] at hn
 rw[hw] at hsk
 refine z0k Tryz.func150 (by kernel_rfl) rfl (by simp) ?_
 dsimp only[Tryz.f150]
 repeat' (first|(apply z05;(first|refine z0o ?_| (apply z09;(refine z3f rfl hX rfl rfl rfl rfl (by decide) ?_))|(apply z0d;(refine z02 z0i rfl rfl ?_))|(apply z0p;(refine z02 (z0q z1c) rfl rfl ?_))|(apply z0u;(first|refine z63 hsk rfl hX (bkT (by repeat (first|exact hT|refine HT.upd ?_ hX0 hX1))) (by decide) ?_|refine z3i hn rfl (z39 (m:=(e0+1,X)) hX (bkT (by repeat (first|exact hT|refine HT.upd ?_ hX0 hX1)))) (by decide) ?_))))|(apply z08;(first|refine z0n ?_|apply z07))|(apply z06;(first|apply z0a|apply z00|apply z04|refine z0g (fun _=>?_) (fun _=>?_))))
 all_goals try (exfalso;omega)
 all_goals ((repeat rw[z43]);first|exact z0l Tryz.func150 _ (z0x rfl rfl rfl rfl rfl rfl rfl) ⟨rfl,rfl⟩|exact z0l Tryz.func150 _ (z4n rfl rfl rfl) ⟨rfl,rfl⟩|exact z0l Tryz.func150 _ z16 ⟨rfl,rfl⟩|exact z0l Tryz.func150 _ (res_three rfl rfl rfl rfl) ⟨rfl,rfl⟩)
theorem zvt (i:Nat) (c:Int) (hi:i<sA.size) (hx:nx (rst sA i)=c) (hc:97≤c∧c≤98) (hw:(Utf8.decode sA i).2=1) (e0:Nat) :
 z2c Tryz.prog 138 [.ptr (e0,X) 0] (((e0,X),pbx sA i 0 0)::zfl τ (e0+1)) [((e0,X),pbx sA ((i+1:Nat):Int) 0 0)] (.tup [.d (eX (Rx.one c c)),B true]):=by
 refine z2n fun H hH=>?_
 have hX:H e0 X=some (pbx sA i 0 0):=hH ((e0,X),pbx sA i 0 0) (by simp)
 have hT:HT τ (e0+1) H:=HT.of (bs:=[((e0,X),pbx sA i 0 0)]) hH
 have hn:=z5w (X:=X) τ sA i (by omega) 0 0 (e0+1)
 have hcr:=zdi y3x (nx (rst sA i)) (zuz sA i).1 (zuz sA i).2
 have ho:=y21 c c
 have hch:=zxa hX0 hX1 τ i c hi hx hc hw (e0+1)
 refine z0k Tryz.func138 (by kernel_rfl) rfl (by simp) ?_
 dsimp only[Tryz.f138]
 rw[zok] at ho ⊢
 rw[hx] at hn hcr
 rw[show spA.contains c=false from by rcases (show c=97∨c=98 by omega) with rfl|rfl <;> rfl] at hcr
 repeat' (first|(apply z05;(first|refine z0o ?_| (apply z09;(refine z3f rfl hX rfl rfl rfl rfl (by decide) ?_))|(apply z0d;(refine z02 z0i rfl rfl ?_))|(apply z0p;(refine z02 (z0q z1c) rfl rfl ?_))|(apply z0u;(first|refine z63 hch rfl hX (bkT (by repeat (first|exact hT|refine HT.upd ?_ hX0 hX1))) (by decide) ?_|refine z3i hn rfl (z39 (m:=(e0+1,X)) hX (bkT (by repeat (first|exact hT|refine HT.upd ?_ hX0 hX1)))) (by decide) ?_|refine z1j hcr ?_| refine z1j ho ?_))|(apply z0c;(refine z23 ?_))|(apply z0h;(refine z0b z2i ?_))))|(apply z08;(first|refine z0n ?_|apply z07|refine z1r ?_| refine z8t rfl rfl (fun _=>?_) (fun _=>?_)))|(apply z06;(first|apply z0a|apply z00|refine z11 ?_| apply z04|apply z01|apply z03|refine z0g (fun _=>?_) (fun _=>?_))))
 all_goals try (exfalso;omega)
 all_goals ((repeat rw[z43]);first|exact z0l Tryz.func138 _ (z0x rfl rfl rfl rfl rfl rfl rfl) ⟨rfl,rfl⟩|exact z0l Tryz.func138 _ (z4n rfl rfl rfl) ⟨rfl,rfl⟩|exact z0l Tryz.func138 _ z16 ⟨rfl,rfl⟩|exact z0l Tryz.func138 _ (res_three rfl rfl rfl rfl) ⟨rfl,rfl⟩)
theorem zuv (i:Nat) (c d:Int) (hi:i<sA.size) (hx:nx (rst sA i)=c) (hc:97≤c∧c≤98) (hw:(Utf8.decode sA i).2=1) (hd:nx (rst sA (i+1))=d) (hdd:d=98∨d=41) (e0:Nat) :
 z2c Tryz.prog 123 [.ptr (e0,X) 0] (((e0,X),pbx sA i 0 0)::zfl τ (e0+1)) [((e0,X),pbx sA ((i+1:Nat):Int) 0 0)] (.tup [.d (eX (Rx.one c c)),B true]):=by
 refine z2n fun H hH=>?_
 have hX:H e0 X=some (pbx sA i 0 0):=hH ((e0,X),pbx sA i 0 0) (by simp)
 have hT:HT τ (e0+1) H:=HT.of (bs:=[((e0,X),pbx sA i 0 0)]) hH
 have ha:=zvt hX0 hX1 τ i c hi hx hc hw (e0+1)
 have hn:=z5w (X:=X) τ sA (i+1) (by omega) 0 0 (e0+1)
 rw[hd] at hn
 refine z0k Tryz.func123 (by kernel_rfl) rfl (by simp) ?_
 dsimp only[Tryz.f123]
 rw[zok] at ha ⊢
 repeat' (first|(apply z05;(first|refine z0o ?_| (apply z0u;(refine z63 ha rfl hX (bkT (by repeat (first|exact hT|refine HT.upd ?_ hX0 hX1))) (by decide) ?_))|(apply z0c;(refine z23 ?_))|(apply z0h;(refine z0b z2i ?_))))|(apply z08;(first|refine z0n ?_|apply z07))|(apply z06;(first|apply z0a|apply z00|apply z01)))
 all_goals try (exfalso;omega)
 refine z1a ?_
 refine z45 ?_
 repeat' (first|(apply z05;(first|refine z0o ?_| (apply z09;(first|refine z3f rfl (z3n _ (e0,X) _) rfl rfl rfl rfl (by decide) ?_|refine z02 z1z rfl rfl ?_))|(apply z0d;(refine z02 z0i rfl rfl ?_))|(apply z0p;(refine z02 (z0q z1c) rfl rfl ?_))|(apply z0u;(refine z3i hn rfl (z39 (m:=(e0+1,X)) (z3n _ (e0,X) _) (bkT (by repeat (first|exact hT|refine HT.upd ?_ hX0 hX1)))) (by decide) ?_))|(apply z0c;(refine z23 ?_))))|(apply z08;(first|refine z0n ?_|apply z07))|(apply z06;(first|apply z0a|apply z00|refine z1h ?_| apply z04|apply z01|apply z03|refine z0g (fun _=>?_) (fun _=>?_))))
 all_goals try (exfalso;omega)
 all_goals ((repeat rw[z43]);first|exact z0l Tryz.func123 _ (z0x rfl rfl rfl rfl rfl rfl rfl) ⟨rfl,rfl⟩|exact z0l Tryz.func123 _ (z4n rfl rfl rfl) ⟨rfl,rfl⟩|exact z0l Tryz.func123 _ z16 ⟨rfl,rfl⟩|exact z0l Tryz.func123 _ (res_three rfl rfl rfl rfl) ⟨rfl,rfl⟩)
abbrev eA:Rx:=.mk 1 0 0 [(97,97)] []
abbrev eB:Rx:=.mk 1 0 0 [(98,98)] []
abbrev eAB:Rx:=.mk 2 0 0 [] [eA,eB]
abbrev bx2:Nat × Blk:=(2,.box (z62 [Value.int .i64 0,Value.int .i64 0,Value.int .i64 0,z30,z30]))
theorem y08 (e0:Nat) :
 z2c Tryz.prog 109 [.ptr (e0,X) 0] (((e0,X),pbx sA 1 0 0)::zfl τ (e0+1)) [((e0,X),pbx sA 3 0 0)] (.tup [.d (eX eAB),B true]):=by
 refine z2n fun H hH=>?_
 have hX:H e0 X=some (pbx sA 1 0 0):=hH ((e0,X),pbx sA 1 0 0) (by simp)
 have hT:HT τ (e0+1) H:=HT.of (bs:=[((e0,X),pbx sA 1 0 0)]) hH
 have h1:=zuv hX0 hX1 τ 1 97 98 (by decide) (by rfl) (by decide) (by rfl) (by rfl) (.inl rfl) (e0+1)
 have h2:=zuv hX0 hX1 τ 2 98 41 (by decide) (by rfl) (by decide) (by rfl) (by rfl) (.inr rfl) (e0+1)
 have hn1:=z5w (X:=X) τ sA 1 (by decide) 0 0 (e0+1)
 have hn2:=z5w (X:=X) τ sA 2 (by decide) 0 0 (e0+1)
 have hn3:=z5w (X:=X) τ sA 3 (by decide) 0 0 (e0+1)
 rw[show nx (rst sA 1)=97 from rfl] at hn1
 rw[show nx (rst sA 2)=98 from rfl] at hn2
 rw[show nx (rst sA 3)=41 from rfl] at hn3
 refine z0k Tryz.func109 (by kernel_rfl) rfl (by simp) ?_
 dsimp only[Tryz.f109]
 rw[zok] at h1 h2
 rw[zh2]
 repeat' (first|(apply z05;(first|refine z0o ?_| (apply z0u;(refine z3i hn1 rfl (z39 (m:=(e0+1,X)) hX (bkT (by repeat (first|exact hT|refine HT.upd ?_ hX0 hX1)))) (by decide) ?_))|(apply z0h;(refine z0b z2i ?_))))|(apply z08;(first|refine z0n ?_|apply z07))|(apply z06;(first|apply z0a|apply z00|apply z01)))
 all_goals try (exfalso;omega)
 refine z2e 4 1000 44 5 rfl rfl rfl ?_
 refine z1a ?_
 refine z45 ?_
 repeat' (first|(apply z05;(first|refine z0o ?_| (apply z09;(first|refine z02 z1d rfl rfl ?_| refine z02 z1z rfl rfl ?_))|(apply z0d;(refine z02 z0i rfl rfl ?_))|(apply z0t;(refine z50 (g:=rxc) (q:=[]) rfl rfl eA (by rw[z48];rfl) rfl rfl rfl (zd4 _) rfl rfl (by decide) (by decide) ?_))|(apply z0u;(first|refine z63 h1 rfl hX (bkT (by repeat (first|exact hT|refine HT.upd ?_ hX0 hX1))) (by decide) ?_|refine z3i hn2 rfl (z39 (m:=(e0+1,X)) (z3n _ (e0,X) _) (bkT (by repeat (first|exact hT|refine HT.upd ?_ hX0 hX1)))) (by decide) ?_))|(apply z0c;(refine z23 ?_))|(apply z0h;(refine z0b z2i ?_))|(apply z1w;(refine z29 rfl ?_))))|(apply z08;(first|refine z0n ?_|apply z07))|(apply z06;(first|apply z0a|apply z00|refine z1h ?_| refine z11 ?_| apply z04|apply z01|apply z03)))
 all_goals try (exfalso;omega)
 refine z1s 40 1000 ?_
 refine z0e (tm':=[(0,.ptr (e0+1,X) 0),(2,.ptr (0,2) 0),(4,.ref (0,1000)),(5,I .i32 98)]) (hp':=[(1000,.row 44 5 ([eA].map rxc)),bx2]) ?_ rfl rfl
 refine z45 ?_
 repeat' (first|(apply z05;(first|refine z0o ?_| (apply z09;(first|refine z02 z1d rfl rfl ?_| refine z02 z1z rfl rfl ?_))|(apply z0d;(refine z02 z0i rfl rfl ?_))|(apply z0t;(refine z50 (g:=rxc) (q:=[eA]) rfl rfl eB (by rw[z48];rfl) rfl rfl rfl (zd4 _) rfl rfl (by decide) (by decide) ?_))|(apply z0u;(first|refine z63 h2 rfl (z3n _ (e0,X) _) (bkT (by repeat (first|exact hT|refine HT.upd ?_ hX0 hX1))) (by decide) ?_|refine z3i hn3 rfl (z39 (m:=(e0+1,X)) (z3n _ (e0,X) _) (bkT (by repeat (first|exact hT|refine HT.upd ?_ hX0 hX1)))) (by decide) ?_))|(apply z0c;(refine z23 ?_))|(apply z0h;(refine z0b z2i ?_))|(apply z1w;(refine z29 rfl ?_))))|(apply z08;(first|refine z0n ?_|apply z07))|(apply z06;(first|apply z0a|apply z00|refine z1h ?_| refine z11 ?_| apply z04|apply z01|apply z03)))
 all_goals try (exfalso;omega)
 refine z1s 40 1000 ?_
 refine z0e (tm':=[(0,.ptr (e0+1,X) 0),(2,.ptr (0,2) 0),(4,.ref (0,1000)),(5,I .i32 41)]) (hp':=[(1000,.row 44 5 ([eA,eB].map rxc)),bx2]) ?_ rfl rfl
 refine z1g 1000 rfl ?_
 refine z45 ?_
 repeat' (first|(apply z05;(first|refine z0o ?_| (apply z0t;(refine z02 (z1b rfl) rfl rfl ?_))|(apply z0c;(refine z23 ?_))|(apply z0z;(refine z3s ?_))))|(apply z08;(first|refine z0n ?_|apply z07))|(apply z06;(first|apply z0a|apply z00|refine z11 ?_| apply z04|refine z0j ?_)))
 all_goals try (exfalso;omega)
 all_goals ((repeat rw[z43]);first|exact z0l Tryz.func109 _ (z0x rfl rfl rfl rfl rfl rfl rfl) ⟨rfl,rfl⟩|exact z0l Tryz.func109 _ (z4n rfl rfl rfl) ⟨rfl,rfl⟩|exact z0l Tryz.func109 _ z16 ⟨rfl,rfl⟩|exact z0l Tryz.func109 _ (res_three rfl rfl rfl rfl) ⟨rfl,rfl⟩)
theorem y3f (e0:Nat) :
 z2c Tryz.prog 70 [.ptr (e0,X) 0] (((e0,X),pbx sA 1 0 0)::zfl τ (e0+1)) [((e0,X),pbx sA 3 0 0)] (.tup [.d (eX eAB),B true]):=by
 refine z2n fun H hH=>?_
 have hX:H e0 X=some (pbx sA 1 0 0):=hH ((e0,X),pbx sA 1 0 0) (by simp)
 have hT:HT τ (e0+1) H:=HT.of (bs:=[((e0,X),pbx sA 1 0 0)]) hH
 have hr:=y08 hX0 hX1 τ (e0+1)
 have hn:=z5w (X:=X) τ sA 3 (by decide) 0 0 (e0+1)
 rw[show nx (rst sA 3)=41 from rfl] at hn
 refine z0k Tryz.func70 (by kernel_rfl) rfl (by simp) ?_
 dsimp only[Tryz.f70]
 rw[zh2] at hr ⊢
 repeat' (first|(apply z05;(first|refine z0o ?_| (apply z0h;(refine z0b z2i ?_))))|(apply z08;(first|refine z0n ?_|apply z07))|(apply z06;(first|apply z0a|apply z00|apply z01)))
 all_goals try (exfalso;omega)
 refine z2e 4 1000 44 5 rfl rfl rfl ?_
 refine z1a ?_
 refine z45 ?_
 repeat' (first|(apply z05;(first|refine z0o ?_| (apply z09;(first|refine z02 z1d rfl rfl ?_| refine z02 z27 rfl rfl ?_| refine z02 z1z rfl rfl ?_))|(apply z0d;(refine z02 z0i rfl rfl ?_))|(apply z0f;(refine z02 (zaf (u:=rx5 2 0 0 [] [eA,eB]) rfl (by omega) rfl rfl) rfl rfl ?_))|(apply z0t;(first|refine z50 (g:=rxc) (q:=[]) rfl rfl eAB (by rw[z48];rfl) rfl rfl rfl (zd4 _) rfl rfl (by decide) (by decide) ?_|refine z02 (zx5 rfl) rfl rfl ?_))|(apply z0u;(first|(refine z3i hn rfl (z39 (m:=(e0+1,X)) (z3n _ (e0,X) _) (bkT (by repeat (first|exact hT|refine HT.upd ?_ hX0 hX1)))) (by decide) ?_;refine zc1 25 rfl ?_;rw[List.nil_append,List.map_cons,List.map_nil,z48])|refine z63 hr rfl hX (bkT (by repeat (first|exact hT|refine HT.upd ?_ hX0 hX1))) (by decide) ?_))|(apply z0c;(refine z23 ?_))|(apply z0h;(refine z0b z2i ?_))|(apply z1w;(refine z29 rfl ?_))))|(apply z08;(first|refine z0n ?_|apply z07))|(apply z06;(first|apply z0a|apply z00|refine z1h ?_| refine z11 ?_| apply z04|apply z01|refine z0j ?_)))
 all_goals try (exfalso;omega)
 all_goals ((repeat rw[z43]);first|exact z0l Tryz.func70 _ (z0x rfl rfl rfl rfl rfl rfl rfl) ⟨rfl,rfl⟩|exact z0l Tryz.func70 _ (z4n rfl rfl rfl) ⟨rfl,rfl⟩|exact z0l Tryz.func70 _ z16 ⟨rfl,rfl⟩|exact z0l Tryz.func70 _ (res_three rfl rfl rfl rfl) ⟨rfl,rfl⟩)
theorem zvs (e0:Nat) :
 z2c Tryz.prog 138 [.ptr (e0,X) 0] (((e0,X),pbx sA 0 0 0)::zfl τ (e0+1)) [((e0,X),pbx sA 4 0 0)] (.tup [.d (eX eAB),B true]):=by
 refine z2n fun H hH=>?_
 have hX:H e0 X=some (pbx sA 0 0 0):=hH ((e0,X),pbx sA 0 0 0) (by simp)
 have hT:HT τ (e0+1) H:=HT.of (bs:=[((e0,X),pbx sA 0 0 0)]) hH
 have hu:=y3f hX0 hX1 τ (e0+1)
 have hn:=z5w (X:=X) τ sA 0 (by decide) 0 0 (e0+1)
 rw[show nx (rst sA 0)=40 from rfl] at hn
 have heat:=y22 hX0 hX1 τ sA hsA 3 (by decide) 41 (by decide) (by decide) (e0+1)
 rw[show nx (rst sA 3)=41 from rfl,if_pos rfl,decide_eq_true rfl] at heat
 refine z0k Tryz.func138 (by kernel_rfl) rfl (by simp) ?_
 dsimp only[Tryz.f138]
 rw[zh2] at hu ⊢
 repeat' (first|(apply z05;(first|refine z0o ?_| (apply z09;(refine z3f rfl hX rfl rfl rfl rfl (by decide) ?_))|(apply z0d;(refine z02 z0i rfl rfl ?_))|(apply z0p;(refine z02 (z0q z1c) rfl rfl ?_))|(apply z0u;(first|refine z63 hu rfl (z3n _ (e0,X) _) (bkT (by repeat (first|exact hT|refine HT.upd ?_ hX0 hX1))) (by decide) ?_|refine z3i hn rfl (z39 (m:=(e0+1,X)) hX (bkT (by repeat (first|exact hT|refine HT.upd ?_ hX0 hX1)))) (by decide) ?_))|(apply z0c;(first|refine z4l (raw':=pbx sA 1 0 0) rfl hX rfl rfl rfl rfl rfl rfl ?_|refine z23 ?_))|(apply z0h;(refine z0b z2i ?_))))|(apply z08;(first|refine z0n ?_|apply z07))|(apply z06;(first|apply z0a|apply z00|refine z1h ?_| apply z01|apply z2p))|(apply z2r;(first|(apply z15;refine z1o mix ?_)|refine z2s ?_| (apply z0r;(refine z0m z1z rfl rfl ?_))|(apply z3a;(refine zxd heat (by first|exact rfl|exact⟨_,rfl,rfl,rfl⟩) rfl (z3n _ (e0,X) _) (bkT (by repeat (first|exact hT|refine HT.upd ?_ hX0 hX1))) (by decide) ?_))|(apply z36;(refine z5b (by first|exact rfl|exact⟨_,rfl,rfl,rfl⟩) rfl rfl rfl rfl rfl rfl ?_)))))
 all_goals try (exfalso;omega)
 all_goals ((repeat rw[z43]);first|exact z0l Tryz.func138 _ (z0x rfl rfl rfl rfl rfl rfl rfl) ⟨rfl,rfl⟩|exact z0l Tryz.func138 _ (z4n rfl rfl rfl) ⟨rfl,rfl⟩|exact z0l Tryz.func138 _ z16 ⟨rfl,rfl⟩|exact z0l Tryz.func138 _ (res_three rfl rfl rfl rfl) ⟨rfl,rfl⟩)
abbrev eSt:Rx:=.mk 4 0 (-1) [] [eAB]
theorem zza (e0:Nat) :
 z2c Tryz.prog 123 [.ptr (e0,X) 0] (((e0,X),pbx sA 0 0 0)::zfl τ (e0+1)) [((e0,X),pbx sA 5 0 0)] (.tup [.d (eX eSt),B true]):=by
 refine z2n fun H hH=>?_
 have hX:H e0 X=some (pbx sA 0 0 0):=hH ((e0,X),pbx sA 0 0 0) (by simp)
 have hT:HT τ (e0+1) H:=HT.of (bs:=[((e0,X),pbx sA 0 0 0)]) hH
 have ha:=zvs hX0 hX1 τ (e0+1)
 have hn:=z5w (X:=X) τ sA 4 (by decide) 0 0 (e0+1)
 have hn5:=z5w (X:=X) τ sA 5 (by decide) 0 0 (e0+1)
 rw[show nx (rst sA 4)=42 from rfl] at hn
 rw[show nx (rst sA 5)=-1 from rfl] at hn5
 refine z0k Tryz.func123 (by kernel_rfl) rfl (by simp) ?_
 dsimp only[Tryz.f123]
 rw[zh2] at ha ⊢
 rw[show rx5 4 0 (-1) [] [eAB]=[z1m 4,z1m 0,z1m (-1),rgs [],.slice [rx5 2 0 0 [] [eA,eB]]] by rw[rx5,List.map_cons,List.map_nil,z48]]
 repeat' (first|(apply z05;(first|refine z0o ?_| (apply z0u;(refine z63 ha rfl hX (bkT (by repeat (first|exact hT|refine HT.upd ?_ hX0 hX1))) (by decide) ?_))|(apply z0c;(refine z23 ?_))|(apply z0h;(refine z0b z2i ?_))))|(apply z08;(first|refine z0n ?_|apply z07))|(apply z06;(first|apply z0a|apply z00|apply z01)))
 all_goals try (exfalso;omega)
 refine z1a ?_
 refine z45 ?_
 repeat' (first|(apply z05;(first|refine z0o ?_| (apply z09;(first|refine z3f rfl (z3n _ (e0,X) _) rfl rfl rfl rfl (by decide) ?_|refine z02 z1z rfl rfl ?_))|(apply z0d;(refine z02 z0i rfl rfl ?_))|(apply z0p;(refine z02 (z0q z1c) rfl rfl ?_))|(apply z0u;(refine z3i hn rfl (z39 (m:=(e0+1,X)) (z3n _ (e0,X) _) (bkT (by repeat (first|exact hT|refine HT.upd ?_ hX0 hX1)))) (by decide) ?_))|(apply z0c;(first|refine z4l (raw':=pbx sA 5 0 0) rfl (z3n _ (e0,X) _) rfl rfl rfl rfl rfl rfl ?_|refine z23 ?_))|(apply z0z;(refine z3s ?_))|(apply z1w;(refine z29 rfl ?_))))|(apply z08;(first|refine z0n ?_|apply z07))|(apply z06;(first|apply z0a|apply z00|refine z1h ?_| apply z04|apply z01|apply z03)))
 all_goals try (exfalso;omega)
 refine z45 ?_
 repeat' (first|(apply z05;(first|refine z0o ?_| (apply z09;(refine z02 z1z rfl rfl ?_))|(apply z0u;(refine z3i hn5 rfl (z39 (m:=(e0+1,X)) (z3n _ (e0,X) _) (bkT (by repeat (first|exact hT|refine HT.upd ?_ hX0 hX1)))) (by decide) ?_))|(apply z0c;(refine z23 ?_))))|(apply z08;(first|refine z0n ?_|apply z07))|(apply z06;(first|apply z0a|apply z00|refine z1h ?_| refine z11 ?_| apply z04|apply z01)))
 all_goals try (exfalso;omega)
 all_goals ((repeat rw[z43]);first|exact z0l Tryz.func123 _ (z0x rfl rfl rfl rfl rfl rfl rfl) ⟨rfl,rfl⟩|exact z0l Tryz.func123 _ (z4n rfl rfl rfl) ⟨rfl,rfl⟩|exact z0l Tryz.func123 _ z16 ⟨rfl,rfl⟩|exact z0l Tryz.func123 _ (res_three rfl rfl rfl rfl) ⟨rfl,rfl⟩)
theorem zzx (e0:Nat) :
 z2c Tryz.prog 109 [.ptr (e0,X) 0] (((e0,X),pbx sA 0 0 0)::zfl τ (e0+1)) [((e0,X),pbx sA 5 0 0)] (.tup [.d (eX eSt),B true]):=by
 refine z2n fun H hH=>?_
 have hX:H e0 X=some (pbx sA 0 0 0):=hH ((e0,X),pbx sA 0 0 0) (by simp)
 have hT:HT τ (e0+1) H:=HT.of (bs:=[((e0,X),pbx sA 0 0 0)]) hH
 have h1:=zza hX0 hX1 τ (e0+1)
 have hn1:=z5w (X:=X) τ sA 0 (by decide) 0 0 (e0+1)
 have hn2:=z5w (X:=X) τ sA 5 (by decide) 0 0 (e0+1)
 rw[show nx (rst sA 0)=40 from rfl] at hn1
 rw[show nx (rst sA 5)=-1 from rfl] at hn2
 refine z0k Tryz.func109 (by kernel_rfl) rfl (by simp) ?_
 dsimp only[Tryz.f109]
 rw[zh2] at h1 ⊢
 repeat' (first|(apply z05;(first|refine z0o ?_| (apply z0u;(refine z3i hn1 rfl (z39 (m:=(e0+1,X)) hX (bkT (by repeat (first|exact hT|refine HT.upd ?_ hX0 hX1)))) (by decide) ?_))|(apply z0h;(refine z0b z2i ?_))))|(apply z08;(first|refine z0n ?_|apply z07))|(apply z06;(first|apply z0a|apply z00|apply z01)))
 all_goals try (exfalso;omega)
 refine z2e 4 1000 44 5 rfl rfl rfl ?_
 refine z1a ?_
 refine z45 ?_
 repeat' (first|(apply z05;(first|refine z0o ?_| (apply z09;(first|refine z02 z1d rfl rfl ?_| refine z02 z1z rfl rfl ?_))|(apply z0d;(refine z02 z0i rfl rfl ?_))|(apply z0t;(refine z50 (g:=rxc) (q:=[]) rfl rfl eSt (by rw[z48];rfl) rfl rfl rfl (zd4 _) rfl rfl (by decide) (by decide) ?_))|(apply z0u;(first|refine z63 h1 rfl hX (bkT (by repeat (first|exact hT|refine HT.upd ?_ hX0 hX1))) (by decide) ?_|refine z3i hn2 rfl (z39 (m:=(e0+1,X)) (z3n _ (e0,X) _) (bkT (by repeat (first|exact hT|refine HT.upd ?_ hX0 hX1)))) (by decide) ?_))|(apply z0c;(refine z23 ?_))|(apply z0h;(refine z0b z2i ?_))|(apply z1w;(refine z29 rfl ?_))))|(apply z08;(first|refine z0n ?_|apply z07))|(apply z06;(first|apply z0a|apply z00|refine z1h ?_| refine z11 ?_| apply z04|apply z01|apply z03)))
 all_goals try (exfalso;omega)
 refine z1s 40 1000 ?_
 refine z0e (tm':=[(0,.ptr (e0+1,X) 0),(2,.ptr (0,2) 0),(4,.ref (0,1000)),(5,I .i32 (-1))]) (hp':=[(1000,.row 44 5 ([eSt].map rxc)),bx2]) ?_ rfl rfl
 rw[List.map_cons,List.map_nil,z48]
 refine z1g 1000 rfl ?_
 refine z45 ?_
 repeat' (first|(apply z05;(first|refine z0o ?_| (apply z09;(refine z02 z27 rfl rfl ?_))|(apply z0f;(refine z02 (zaf (u:=rx5 4 0 (-1) [] [eAB]) rfl (by omega) rfl rfl) rfl rfl ?_))|(apply z0t;(refine z02 (zx5 rfl) rfl rfl ?_))|(apply z0c;(refine z23 ?_))))|(apply z08;(first|refine z0n ?_|apply z07|refine z1r ?_))|(apply z06;(first|apply z0a|apply z00|refine z1h ?_| refine z11 ?_| refine z0j ?_)))
 all_goals try (exfalso;omega)
 all_goals ((repeat rw[z43]);first|exact z0l Tryz.func109 _ (z0x rfl rfl rfl rfl rfl rfl rfl) ⟨rfl,rfl⟩|exact z0l Tryz.func109 _ (z4n rfl rfl rfl) ⟨rfl,rfl⟩|exact z0l Tryz.func109 _ z16 ⟨rfl,rfl⟩|exact z0l Tryz.func109 _ (res_three rfl rfl rfl rfl) ⟨rfl,rfl⟩)
theorem y2h (e0:Nat) :
 z2c Tryz.prog 70 [.ptr (e0,X) 0] (((e0,X),pbx sA 0 0 0)::zfl τ (e0+1)) [((e0,X),pbx sA 5 0 0)] (.tup [.d (eX eSt),B true]):=by
 refine z2n fun H hH=>?_
 have hX:H e0 X=some (pbx sA 0 0 0):=hH ((e0,X),pbx sA 0 0 0) (by simp)
 have hT:HT τ (e0+1) H:=HT.of (bs:=[((e0,X),pbx sA 0 0 0)]) hH
 have hr:=zzx hX0 hX1 τ (e0+1)
 have hn:=z5w (X:=X) τ sA 5 (by decide) 0 0 (e0+1)
 rw[show nx (rst sA 5)=-1 from rfl] at hn
 refine z0k Tryz.func70 (by kernel_rfl) rfl (by simp) ?_
 dsimp only[Tryz.f70]
 rw[zh2] at hr ⊢
 repeat' (first|(apply z05;(first|refine z0o ?_| (apply z0h;(refine z0b z2i ?_))))|(apply z08;(first|refine z0n ?_|apply z07))|(apply z06;(first|apply z0a|apply z00|apply z01)))
 all_goals try (exfalso;omega)
 refine z2e 4 1000 44 5 rfl rfl rfl ?_
 refine z1a ?_
 refine z45 ?_
 repeat' (first|(apply z05;(first|refine z0o ?_| (apply z09;(first|refine z02 z1d rfl rfl ?_| refine z02 z27 rfl rfl ?_| refine z02 z1z rfl rfl ?_))|(apply z0d;(refine z02 z0i rfl rfl ?_))|(apply z0f;(refine z02 (zaf (u:=rx5 4 0 (-1) [] [eAB]) rfl (by omega) rfl rfl) rfl rfl ?_))|(apply z0t;(first|refine z50 (g:=rxc) (q:=[]) rfl rfl eSt (by rw[z48];rfl) rfl rfl rfl (zd4 _) rfl rfl (by decide) (by decide) ?_|refine z02 (zx5 rfl) rfl rfl ?_))|(apply z0u;(first|(refine z3i hn rfl (z39 (m:=(e0+1,X)) (z3n _ (e0,X) _) (bkT (by repeat (first|exact hT|refine HT.upd ?_ hX0 hX1)))) (by decide) ?_;refine zc1 25 rfl ?_;rw[List.nil_append,List.map_cons,List.map_nil,z48])|refine z63 hr rfl hX (bkT (by repeat (first|exact hT|refine HT.upd ?_ hX0 hX1))) (by decide) ?_))|(apply z0c;(refine z23 ?_))|(apply z0h;(refine z0b z2i ?_))|(apply z1w;(refine z29 rfl ?_))))|(apply z08;(first|refine z0n ?_|apply z07))|(apply z06;(first|apply z0a|apply z00|refine z1h ?_| refine z11 ?_| apply z04|apply z01|refine z0j ?_)))
 all_goals try (exfalso;omega)
 all_goals ((repeat rw[z43]);first|exact z0l Tryz.func70 _ (z0x rfl rfl rfl rfl rfl rfl rfl) ⟨rfl,rfl⟩|exact z0l Tryz.func70 _ (z4n rfl rfl rfl) ⟨rfl,rfl⟩|exact z0l Tryz.func70 _ z16 ⟨rfl,rfl⟩|exact z0l Tryz.func70 _ (res_three rfl rfl rfl rfl) ⟨rfl,rfl⟩)
end
end Go.Proofs.YthdfkabdoidjfaaGreatDoor
namespace Go.Proofs.YthdfkabdoidjfaaGreatDoor
open Go.Ab Go.Rx
set_option maxHeartbeats 20000000
set_option maxRecDepth 100000
attribute [local irreducible] Run Ops Op1 z2b Val Tr z0v z2c NF Rel z3w z3x
theorem zxt {P:Program} {f:FuncId} {R:z3m} {k:List Item} {all:Array Oper} {l:List Oper} {n:Nat} {tm:List (Nat × PV)} {hp:Hp} {up:Hf} {d:Nat} {ty:TypeId} {pos:String} {aft:Array Edge} {gd:Option (Nat × Bool)} {p:PV} {g:FuncId} {args:List Operand} {ps:List PV} {ats:Array TypeId} {ms:Nat} {b b':Blk} {bs:List (Nm × Blk)}
 (hsp:z2c P g ps (((0,ms),b)::bs) [((0,ms),b')] p) (hev:St.evs ⟨n,tm,hp,up⟩ args=some ps) (hb:Ab.look hp ms=some b) (hbs:BkE ⟨n,tm,hp,up⟩ bs) (hd:d<n)
 (h:Ops P f R all l k ⟨n,(d,p)::tm,(ms,b')::hp,up⟩):Op1 P f R all ⟨some d,.call ⟨.value (.func g),args.toArray,ats⟩,ty,pos,aft,gd⟩ l k ⟨n,tm,hp,up⟩ :=
 zir hsp hev (z39 (m:=(0,ms)) hb hbs) hd rfl h
theorem zs4 (τ:Tab):z2c Tryz.prog 39 [S sA] (zfl τ 0) [] (.tup [.d (eX eSt),I .i64 0,I .i64 0]):=by
 refine z2n fun H hH=>?_
 have hT:HT τ 0 H:=HT.of (bs:=[]) hH
 have hv:=zeb eSt (by simp[fit,zyp])
 rw[show val eSt=0 from rfl,show Drx eSt=.agg (rx5 4 0 (-1) [] [eAB]) from zh2 _ _ _ _ _] at hv
 have hu:=y2h (X:=10) (by decide) (by decide) τ 0
 rw[zh2] at hu ⊢
 refine z0k Tryz.func39 (by kernel_rfl) rfl (by simp) ?_
 dsimp only[Tryz.f39]
 have h5:¬ 200<sA.size:=by decide
 repeat' (first|(apply z05;(first|refine z0o ?_| (apply z0t;(refine z02 (zb2 rfl) rfl rfl ?_))|(apply z0h;(refine z0b z2i ?_))))|(apply z08;(first|refine z0n ?_|apply z07))|(apply z06;(first|apply z0a|apply z00|refine z11 ?_| apply z04|apply z01)))
 all_goals try (exfalso;omega)
 obtain⟨L,hL⟩:∃ L,unF 0 (rst sA 0)=L:=⟨_,rfl⟩
 have hok:∀ u∈L,¬ (u.1=65533∧u.2.2=1):=by rw[← hL,show unF 0 (rst sA 0)=[(40,0,1),(97,1,1),(98,2,1),(41,3,1),(42,4,1)] from rfl];decide
 have hll:L.length=5:=by rw[← hL];rfl
 refine z1a ?_
 refine z0e (z1y (fun q:Nat=>⟨66,[(0,S sA),(2,.ptr (0,2) 0),(5,I .i64 (q:Nat))],[(2,.box (z62 [Value.int .i64 0,Value.int .i64 0,Value.int .i64 0,z30,z30]))],H⟩)
  (fun q=>q≤L.length) (fun q=>L.length-q) ?_ 0 (Nat.zero_le _)) rfl rfl
 intro q i1 ih
 have hat:=y46 sA hsA q (by omega)
 rw[atR,hL] at hat
 by_cases hlt:q<L.length
 · obtain⟨u,hu⟩:∃ u,L[q]? =some u:=⟨_,List.getElem?_eq_getElem hlt⟩
   rw[hu] at hat
   simp only at hat
   have hnb:=hok u (List.mem_of_getElem? hu)
   repeat' (first|(apply z05;(first|refine z0o ?_| (apply z0p;(refine z02 (z0q z1c) rfl rfl ?_))|(apply z0u;(refine z1j hat ?_))|(apply z0c;(refine z23 ?_))|(apply z0z;(refine z3s ?_))))|(apply z08;(first|refine z0n ?_|apply z07|refine z1r ?_| refine z2h (fun _=>?_) (fun _=>?_)))|(apply z06;(first|apply z0a|apply z00|refine z11 ?_| apply z04|apply z01|apply z03|refine z0g (fun _=>?_) (fun _=>?_))))
   all_goals try (exfalso;omega)
   all_goals exact z0e (ih (q+1) (by omega) (by omega)) rfl rfl
 · obtain rfl:q=L.length:=by omega
   rw[List.getElem?_eq_none (Nat.le_refl _)] at hat
   simp only at hat
   clear ih
   repeat' (first|(apply z05;(first|refine z0o ?_| (apply z09;(first|refine z02 z1d rfl rfl ?_| refine z02 z1z rfl rfl ?_))|(apply z0d;(refine z02 z0i rfl rfl ?_))|(apply z0t;(refine z02 (zb2 rfl) rfl rfl ?_))|(apply z0u;(first|refine zxt hu rfl rfl (bkT hT) (by decide) ?_|refine z1j hat ?_| refine z1j hv ?_))|(apply z0c;(refine z23 ?_))|(apply z0h;(refine z0b z2i ?_))|(apply z0z;(refine z3s ?_))))|(apply z08;(first|refine z0n ?_|apply z07))|(apply z06;(first|apply z0a|apply z00|refine z1h ?_| refine z11 ?_| apply z04|apply z01|refine z0j ?_)))
   all_goals try (exfalso;omega)
   all_goals exact z0l Tryz.func39 _ (zgg rfl rfl rfl rfl rfl rfl rfl rfl) ⟨rfl,rfl⟩
end Go.Proofs.YthdfkabdoidjfaaGreatDoor
namespace Go.Proofs.YthdfkabdoidjfaaGreatDoor
open Go.Ab Go.Rx
set_option maxHeartbeats 20000000
set_option maxRecDepth 100000
attribute [local irreducible] Run Ops Op1 z2b Val Tr z0v z2c NF Rel z3w z3x ze4
abbrev tz:Tb:=⟨[],[]⟩
abbrev ksA:List Rx:=[eA,eB]
def stA:Nat→Tb × Pt
 | 0=>(tz,ptE)
 | 1=>(⟨[[(97,97)]],[0]⟩,⟨1,1,false⟩)
 | _=>(⟨[[(97,97)],[(98,98)]],[2,0]⟩,⟨1,2,false⟩)
theorem y14:zii 105 [.d (Drx eAB)] tz (stA 2):=by
 have hA:zii 105 [.d (Drx eA)] tz (bd eA tz):=zka 0 0 [(97,97)] [] tz ⟨rfl,by simp⟩ (by decide)
 have hB:zii 105 [.d (Drx eB)] (stA 1).1 (bd eB (stA 1).1):=zka 0 0 [(98,98)] [] (stA 1).1 ⟨rfl,by simp[stA]⟩ (by decide)
 rw[zcv] at hA hB ⊢
 refine zef fun H hH hG1 hG2 hQ1 hQ2=>?_
 have t:Tb:=tz
 have hH0:=hH ((0,600),bbx 601 602) (by simp)
 have hH1:=hH ((0,601),lvr []) (by simp)
 have hH2:=hH ((0,602),fwr []) (by simp)
 refine z6j Tryz.func105 (by kernel_rfl) rfl (by simp) ?_
 dsimp only[Tryz.f105]
 refine z74 600 0 600 hH0 rfl rfl ?_
 refine z4g 601 0 601 (z1l hH1 (by simp)) rfl rfl ?_
 refine z4g 602 0 602 (z1l (z1l hH2 (by simp)) (by simp)) rfl rfl ?_
 refine z7x 100601 rfl ?_
 refine z7x 100602 rfl ?_
 repeat' (first|(apply z05;(first|refine z0o ?_| (apply z09;(refine z02 z1d rfl rfl ?_))|(apply z0d;(refine z02 z0i rfl rfl ?_))|(apply z0t;(refine z02 (z1b rfl) rfl rfl ?_))|(apply z0c;(refine z23 ?_))|(apply z0h;(refine z0b z2i ?_))|(apply z1q;(refine z0b (z5o rfl rfl (by decide)) ?_))|(apply z0z;(refine z3s ?_))))|(apply z08;(first|refine z0n ?_|apply z07))|(apply z06;(first|apply z0a|apply z00|refine z1h ?_| refine z11 ?_| apply z01)))
 all_goals try (exfalso;omega)
 refine z1a ?_
 refine z0e (z1y (fun q:Nat=>⟨98,[(0,.ptr (0,600) 0),(3,.ptr (0,3) 0),(4,.ptr (0,4) 0),(6,.ptr (0,6) 0),(50,.d (.slice (ksA.map rxc))),(51,I .i64 ((2:Nat):Int)),(52,I .i64 (q:Nat)),(100600,.al (0,600) (1,600))],[(4,ptb ptN),(6,ptb (stA q).2),(600,bbx 601 602),(601,lvr (stA q).1.lv),(602,fwr (stA q).1.fo)],U3 H⟩)
  (fun q=>q≤2) (fun q=>2-q) ?_ 0 (Nat.zero_le _)) rfl rfl
 intro q i1 ih
 by_cases hlt:q<2
 · obtain⟨k,t',p,t1,z,hki,hst,hk1,hp,hz,hfo,hfx,hnx⟩:∃ (k:Rx) (t':Tb) (p:Pt) (t1:Tb) (z:Pt),ksA[q]? =some k∧stA q=(t',p)∧zii 105 [.d (.agg (rx5 k.op k.mn k.mx k.rs k.ks))] t' (t1,z)∧(p.f<2 ^ 64∧p.l<2 ^ 64)∧(z.f<2 ^ 64∧z.l<2 ^ 64)∧t1.fo.length≤64∧(∀ x∈t1.fo,x<2 ^ 64)∧stA (q+1)=zbt p z t1:=by
    rcases (show q=0∨q=1 by omega) with rfl|rfl
    · exact⟨eA,tz,ptE,⟨[[(97,97)]],[0]⟩,⟨1,1,false⟩,rfl,rfl,hA,by decide,by decide,by decide,by decide,rfl⟩
    · exact⟨eB,⟨[[(97,97)]],[0]⟩,⟨1,1,false⟩,⟨[[(97,97)],[(98,98)]],[0,0]⟩,⟨2,2,false⟩,rfl,rfl,hB,by decide,by decide,by decide,by decide,rfl⟩
   have ih':=ih (q+1) (by omega) (by omega)
   rw[hnx] at ih'
   rw[hst]
   clear hA hB ih
   obtain⟨ok,mk,xk,rk,kk⟩:=k
   simp only[Rx.op,Rx.mn,Rx.mx,Rx.rs,Rx.ks] at hk1
   dsimp only[zii,hks] at hk1
   have hcc:=zzs (X:=600) (Y:=603) (Z:=604) (by decide) t1.fo p z hp.1 hp.2 hz.1 hz.2 hfo hfx t1.lv 0
   generalize ksA=ks at *
   repeat' (first|(apply z05;(first|refine z0o ?_| (apply z09;(first|refine z02 z27 rfl rfl ?_| refine z02 z1z rfl rfl ?_))|(apply z0f;(refine z02 (z1i (ys:=ks.map rxc) rfl (zdu hki)) rfl rfl ?_))|(apply z0p;(refine z02 (z0q z1c) rfl rfl ?_))|(apply z0c;(refine z23 ?_))|(apply z0h;(refine z0b z2i ?_))))|(apply z08;(first|refine z0n ?_|apply z07))|(apply z06;(first|apply z0a|apply z00|apply z04|apply z01|apply z2p|apply z03|refine z0g (fun _=>?_) (fun _=>?_)| refine z0j ?_))|(apply z2r;(first|(apply z15;refine z1o mix ?_)|refine y30 hk1 (by first|exact rfl|exact⟨_,rfl,rfl,rfl⟩) rfl rfl rfl (by decide) rfl rfl rfl (by decide) ?_|refine z2s ?_| (apply z0r;(refine z0m z1z rfl rfl ?_))|(apply z3a;(refine zww hcc (by first|exact rfl|exact⟨_,rfl,rfl,rfl⟩) rfl rfl rfl (by decide) ?_))|(apply z36;(refine z5b (by first|exact rfl|exact⟨_,rfl,rfl,rfl⟩) rfl rfl rfl rfl rfl rfl ?_)))))
   all_goals try (exfalso;omega)
   all_goals refine z1s 603 601 ?_
   all_goals refine z1s 604 602 ?_
   all_goals exact z0e ih' rfl rfl
 · obtain rfl:q=2:=by omega
   clear ih
   repeat' (first|(apply z05;(first|refine z0o ?_| (apply z09;(refine z02 z1z rfl rfl ?_))|(apply z0c;(refine z23 ?_))))|(apply z08;(first|refine z0n ?_|apply z07))|(apply z06;(first|apply z0a|apply z00|refine z11 ?_| refine z0j ?_)))
   all_goals try (exfalso;omega)
   all_goals refine z7m 601 603 rfl (z1l (z1l (z1l hG1 (by simp)) (by simp)) (by simp)) (Or.inl rfl) rfl (Quiet.upd (Quiet.upd (Quiet.upd hQ1 rfl) rfl) rfl) ?_
   all_goals refine z7m 602 604 rfl (z1l (z1l (z1l (z1l hG2 (by simp)) (by simp)) (by simp)) (by simp)) (Or.inr rfl) rfl (Quiet.upd (Quiet.upd (Quiet.upd (Quiet.upd hQ2 rfl) rfl) rfl) rfl) ?_
   all_goals refine z4z 600 0 600 (raw:=bbx 603 604) rfl rfl rfl rfl rfl ?_
   all_goals refine z0l Tryz.func105 _ (z3v rfl rfl rfl rfl rfl rfl) ⟨rfl,rfl⟩
abbrev tS:Tb × Pt:=(⟨[[(97,97)],[(98,98)]],[2,1]⟩,⟨1,2,true⟩)
theorem zwi:zii 120 [.d (Drx eSt)] tz tS:=by
 have hA:=y14
 obtain⟨t1,q,hB,qf,ql,h64,hfx,hS⟩:∃ (t1:Tb) (q:Pt),stA 2=(t1,q)∧q.f<2 ^ 64∧q.l<2 ^ 64∧t1.fo.length≤64∧(∀ x∈t1.fo,x<2 ^ 64)∧tS=(link t1 q.l q.f,⟨q.f,q.l,true⟩):=⟨_,_,rfl,by decide,by decide,by decide,by decide,rfl⟩
 rw[hB] at hA
 rw[hS]
 have hlk:=zu8 (X:=600) (Y:=601) (Z:=602) (by decide) t1.fo q.l q.f ql qf h64 hfx 0
 rw[show eSt=.mk 4 0 (-1) [] [eAB] from rfl]
 obtain⟨ok,mk,xk,rk,kk,hk⟩:∃ ok mk xk rk kk,eAB=.mk ok mk xk rk kk:=⟨_,_,_,_,_,rfl⟩
 rw[hk] at hA ⊢
 rw[zcv] at hA
 rw[zcv,zw0]
 dsimp only[zii,hks] at hA
 refine zef fun H hH hG1 hG2 hQ1 hQ2=>?_
 have hH0:=hH ((0,600),bbx 601 602) (by simp)
 have hH1:=hH ((0,601),lvr []) (by simp)
 have hH2:=hH ((0,602),fwr []) (by simp)
 refine z6j Tryz.func120 (by kernel_rfl) rfl (by simp) ?_
 dsimp only[Tryz.f120]
 refine z74 600 0 600 hH0 rfl rfl ?_
 refine z4g 601 0 601 (z1l hH1 (by simp)) rfl rfl ?_
 refine z4g 602 0 602 (z1l (z1l hH2 (by simp)) (by simp)) rfl rfl ?_
 refine z7x 100601 rfl ?_
 refine z7x 100602 rfl ?_
 repeat' (first|(apply z05;(first|refine z0o ?_| (apply z09;(refine z02 z1d rfl rfl ?_))|(apply z0d;(refine z02 z0i rfl rfl ?_))|(apply z0c;(refine z23 ?_))|(apply z0h;(refine z0b z2i ?_))|(apply z1q;(refine z0b (z5o rfl rfl (by decide)) ?_))|(apply z0z;(refine z3s ?_))))|(apply z08;(first|refine z0n ?_|apply z07))|(apply z06;(first|apply z0a|apply z00|apply z01)))
 refine z1a ?_
 refine z0e (z1y (fun q:Nat=>⟨98,[(0,.ptr (0,600) 0),(3,.ptr (0,3) 0),(4,.ptr (0,4) 0),(5,.ptr (0,5) 0),(11,I .i64 0),(12,I .i64 (q:Nat)),(100600,.al (0,600) (1,600))],[(3,.box ((y3o 4 0 (-1) [] (rx5 ok mk xk rk kk)).map .d)),(4,ptb ptN),(5,ptb ptE),(600,bbx 601 602),(601,lvr []),(602,fwr [])],U3 H⟩)
  (fun q=>q=0) (fun q=>q) ?_ 0 rfl) rfl rfl
 intro q i1 ih
 clear ih
 subst i1
 repeat' (first|(apply z05;(first|refine zp9 hA rfl rfl rfl (by decide) rfl rfl rfl (by decide) rfl rfl rfl rfl ?_|refine z0o ?_| (apply z09;(first|refine z02 z1d rfl rfl ?_| refine z02 z27 rfl rfl ?_| refine z02 z1z rfl rfl ?_))|(apply z0d;(refine z02 z0i rfl rfl ?_))|(apply z0f;(refine z02 (zaf (ys:=[rx5 ok mk xk rk kk]) rfl (by omega) rfl rfl) rfl rfl ?_))|(apply z0u;(refine zwc hlk rfl rfl rfl (by decide) ?_))|(apply z0c;(refine z23 ?_))))|(apply z08;(first|refine z0n ?_|apply z07))|(apply z06;(first|apply z0a|apply z00|refine z1h ?_| refine z11 ?_| apply z01|apply z03|refine z0j ?_)))
 all_goals try (exfalso;omega)
 all_goals refine z7m 601 603 rfl (z1l (z1l (z1l hG1 (by simp)) (by simp)) (by simp)) (Or.inl rfl) rfl (Quiet.upd (Quiet.upd (Quiet.upd hQ1 rfl) rfl) rfl) ?_
 all_goals refine z7m 602 604 rfl (z1l (z1l (z1l (z1l hG2 (by simp)) (by simp)) (by simp)) (by simp)) (Or.inr rfl) rfl (Quiet.upd (Quiet.upd (Quiet.upd (Quiet.upd hQ2 rfl) rfl) rfl) rfl) ?_
 all_goals refine z4z 600 0 600 (raw:=bbx 603 604) rfl rfl rfl rfl rfl ?_
 all_goals refine z0l Tryz.func120 _ (z3v rfl rfl rfl rfl rfl rfl) ⟨rfl,rfl⟩
theorem zyy:zii 105 [.d (Drx eSt)] tz tS:=zu1 4 0 (-1) [] [eAB] (by decide) (by decide) (by decide) tz tS zwi
end Go.Proofs.YthdfkabdoidjfaaGreatDoor
