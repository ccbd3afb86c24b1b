/- A part of the proof: P4 to P4. -/
import Derived.Test.YtonhfccmeammbaaGreatDoorUs
import Derived.Test.YtonhfccmeammbaaGreatDoorUr
import Derived.Test.YtonhfccmeammbaaGreatDoorUp
import Derived.Test.YtonhfccmeammbaaGreatDoorUc
set_option linter.all false
namespace Go.Proofs.YtonhfccmeammbaaGreatDoor
open Go.Ab Go.Rx
set_option maxHeartbeats 20000000
set_option maxRecDepth 100000
attribute [local irreducible] Run Ops Op1 z1x Val Tr z0m z1r NF Rel z83 z7w
section
variable {X:Nat} (hX0:X≠700) (hX1:X≠701) (τ:Tab) (s:ByteArray) (hs:s.size≤1000000)
abbrev RdC (F:FuncId) (X:Nat) (τ:Tab) (s:ByteArray) (i j:Nat) (x:Rx):Prop:=∀ e0,z1r Tryz.prog F [.ptr (e0,X) 0] (((e0,X),pbx s i 0 0)::z6t τ (e0+1)) [((e0,X),pbx s j 0 0)] (.tup [.d (eX x),B true])
include hX0 hX1 hs
theorem zt8 (i:Nat) (c:Int) (hi:i<s.size) (hx:nx (rst s i)=c) (hc:97≤c∧c≤99) (hw:(Utf8.decode s i).2=1) (e0:Nat) :
 z1r Tryz.prog 198 [.ptr (e0,X) 0,S (spB spA)] (((e0,X),pbx s i 0 0)::z6t τ (e0+1)) [((e0,X),pbx s ((i+1:Nat):Int) 0 0)] (.tup [I .i32 c,B true]):=by
 refine z2h fun H hH=>?_
 have hX:H e0 X=some (pbx s i 0 0):=hH ((e0,X),pbx s i 0 0) (by simp)
 have hT:HT τ (e0+1) H:=HT.of (bs:=[((e0,X),pbx s i 0 0)]) hH
 have hn:=z9p (X:=X) τ s i (by omega) 0 0 (e0+1)
 have hsk:=zws (X:=X) τ s i hi hs 0 0 (e0+1)
 rw[hx] at hn
 rw[hw] at hsk
 refine z0g Tryz.func198 (by kernel_rfl) rfl (by simp) ?_
 dsimp only[Tryz.f198]
 repeat' (first|(apply z04;(first|refine z0l ?_| (apply z0a;(refine z6z rfl hX rfl rfl rfl rfl (by decide) ?_))|(apply z0d;(refine z02 z1a rfl rfl ?_))|(apply z0z;(refine z02 (z14 z1p) rfl rfl ?_))|(apply z0j;(first|refine z8z hsk rfl hX (bkT (by repeat (first|exact hT|refine HT.upd ?_ hX0 hX1))) (by decide) ?_|refine z8j hn rfl (z29 (m:=(e0+1,X)) hX (bkT (by repeat (first|exact hT|refine HT.upd ?_ hX0 hX1)))) (by decide) ?_))))|(apply z05;(first|refine z0k ?_|apply z09))|(apply z06;(first|apply z07|apply z00|apply z08|refine z0h (fun _=>?_) (fun _=>?_))))
 all_goals try (exfalso;omega)
 all_goals ((repeat rw[z50]);first|exact z0c Tryz.func198 _ (z0r rfl rfl rfl rfl rfl rfl rfl) ⟨rfl,rfl⟩|exact z0c Tryz.func198 _ z2m ⟨rfl,rfl⟩|exact z0c Tryz.func198 _ z1j ⟨rfl,rfl⟩|exact z0c Tryz.func198 _ (z5b rfl rfl rfl rfl) ⟨rfl,rfl⟩)
theorem zhf (i:Nat) (c:Int) (hi:i<s.size) (hx:nx (rst s i)=c) (hc:97≤c∧c≤99) (hw:(Utf8.decode s i).2=1):RdC 184 X τ s i (i+1) (Rx.one c c):=by
 intro e0
 refine z2h fun H hH=>?_
 have hX:H e0 X=some (pbx s i 0 0):=hH ((e0,X),pbx s i 0 0) (by simp)
 have hT:HT τ (e0+1) H:=HT.of (bs:=[((e0,X),pbx s i 0 0)]) hH
 have hn:=z9p (X:=X) τ s i (by omega) 0 0 (e0+1)
 have hcr:=zci zzh (nx (rst s i)) (zqw s i).1 (zqw s i).2
 have ho:=zvw c c
 have hch:=zt8 hX0 hX1 τ s hs i c hi hx hc hw (e0+1)
 refine z0g Tryz.func184 (by kernel_rfl) rfl (by simp) ?_
 dsimp only[Tryz.f184]
 rw[zqg] at ho ⊢
 rw[hx] at hn hcr
 rw[show spA.contains c=false from by rcases (show c=97∨c=98∨c=99 by omega) with rfl|rfl|rfl <;> rfl] at hcr
 repeat' (first|(apply z04;(first|refine z0l ?_| (apply z0a;(refine z6z rfl hX rfl rfl rfl rfl (by decide) ?_))|(apply z0d;(refine z02 z1a rfl rfl ?_))|(apply z0z;(refine z02 (z14 z1p) rfl rfl ?_))|(apply z0j;(first|refine z8z hch rfl hX (bkT (by repeat (first|exact hT|refine HT.upd ?_ hX0 hX1))) (by decide) ?_|refine z8j hn rfl (z29 (m:=(e0+1,X)) hX (bkT (by repeat (first|exact hT|refine HT.upd ?_ hX0 hX1)))) (by decide) ?_|refine z2s hcr ?_| refine z2s ho ?_))|(apply z0f;(refine z2d ?_))|(apply z0i;(refine z0b z1e ?_))))|(apply z05;(first|refine z0k ?_|apply z09|refine z1m ?_| refine z3v rfl rfl (fun _=>?_) (fun _=>?_)))|(apply z06;(first|apply z07|apply z00|refine z1f ?_| apply z08|apply z01|apply z03|refine z0h (fun _=>?_) (fun _=>?_))))
 all_goals exact zD36
theorem zsz (i:Nat) (hi:i<s.size) (hx:nx (rst s i)=46):RdC 184 X τ s i (i+1) (.mk 1 0 0 [(0,1114111)] []):=by
 intro e0
 refine z2h fun H hH=>?_
 have hX:H e0 X=some (pbx s i 0 0):=hH ((e0,X),pbx s i 0 0) (by simp)
 have hT:HT τ (e0+1) H:=HT.of (bs:=[((e0,X),pbx s i 0 0)]) hH
 have hn:=z9p (X:=X) τ s i (by omega) 0 0 (e0+1)
 have ho:=zvw 0 1114111
 refine z0g Tryz.func184 (by kernel_rfl) rfl (by simp) ?_
 dsimp only[Tryz.f184]
 rw[zqg] at ho
 rw[zcr]
 rw[hx] at hn
 repeat' (first|(apply z04;(first|refine z0l ?_| (apply z0a;(refine z6z rfl hX rfl rfl rfl rfl (by decide) ?_))|(apply z0d;(refine z02 z1a rfl rfl ?_))|(apply z0z;(refine z02 (z14 z1p) rfl rfl ?_))|(apply z0j;(first|refine z8j hn rfl (z29 (m:=(e0+1,X)) hX (bkT (by repeat (first|exact hT|refine HT.upd ?_ hX0 hX1)))) (by decide) ?_|refine z2s ho ?_))|(apply z0f;(first|refine z68 (raw':=pbx s ((i+1:Nat):Int) 0 0) rfl hX rfl rfl rfl rfl rfl rfl ?_|refine z2d ?_))|(apply z0i;(refine z0b z1e ?_))))|(apply z05;(first|refine z0k ?_|apply z09))|(apply z06;(first|apply z07|apply z00|refine z1b rfl ?_|refine z1f ?_| apply z01)))
 all_goals exact zD36
theorem zid (i j:Nat) (x:Rx) (h:RdC 184 X τ s i j x) (hj:j≤s.size) (d:Int) (hd:nx (rst s j)=d) (hdd:d≠42∧d≠43∧d≠63∧d≠123):RdC 168 X τ s i j x:=by
 intro e0
 refine z2h fun H hH=>?_
 have hX:H e0 X=some (pbx s i 0 0):=hH ((e0,X),pbx s i 0 0) (by simp)
 have hT:HT τ (e0+1) H:=HT.of (bs:=[((e0,X),pbx s i 0 0)]) hH
 have ha:=h (e0+1)
 have hn:=z9p (X:=X) τ s j hj 0 0 (e0+1)
 rw[hd] at hn
 refine z0g Tryz.func168 (by kernel_rfl) rfl (by simp) ?_
 dsimp only[Tryz.f168]
 obtain⟨op,mn,mx,rs,ks⟩:=x
 rw[zcr] at ha ⊢
 repeat' (first|(apply z04;(first|refine z0l ?_| (apply z0j;(refine z8z ha rfl hX (bkT (by repeat (first|exact hT|refine HT.upd ?_ hX0 hX1))) (by decide) ?_))|(apply z0f;(refine z2d ?_))|(apply z0i;(refine z0b z1e ?_))))|(apply z05;(first|refine z0k ?_|apply z09))|(apply z06;(first|apply z07|apply z00|apply z01)))
 all_goals try (exfalso;omega)
 refine z0t ?_
 refine z3i ?_
 repeat' (first|(apply z04;(first|refine z0l ?_| (apply z0a;(first|refine z6z rfl (z4t _ (e0,X) _) rfl rfl rfl rfl (by decide) ?_|refine z02 z2a rfl rfl ?_))|(apply z0d;(refine z02 z1a rfl rfl ?_))|(apply z0z;(refine z02 (z14 z1p) rfl rfl ?_))|(apply z0j;(refine z8j hn rfl (z29 (m:=(e0+1,X)) (z4t _ (e0,X) _) (bkT (by repeat (first|exact hT|refine HT.upd ?_ hX0 hX1)))) (by decide) ?_))|(apply z0f;(refine z2d ?_))))|(apply z05;(first|refine z0k ?_|apply z09))|(apply z06;(first|apply z07|apply z00|refine z1b rfl ?_|apply z08|apply z01|apply z03|refine z0h (fun _=>?_) (fun _=>?_))))
 all_goals try (exfalso;omega)
 all_goals ((repeat rw[z50]);first|exact z0c Tryz.func168 _ (z0r rfl rfl rfl rfl rfl rfl rfl) ⟨rfl,rfl⟩|exact z0c Tryz.func168 _ z2m ⟨rfl,rfl⟩|exact z0c Tryz.func168 _ z1j ⟨rfl,rfl⟩|exact z0c Tryz.func168 _ (z5b rfl rfl rfl rfl) ⟨rfl,rfl⟩)
abbrev bxZ:Nat × Blk:=(2,.box (z4u [Value.int .i64 0,Value.int .i64 0,Value.int .i64 0,z1k,z1k]))
theorem zjh (i j:Nat) (x:Rx) (hx2:x.op≠2) (h:RdC 168 X τ s i j x) (hi:i≤s.size) (hj:j≤s.size) (a d:Int) (h0:nx (rst s i)=a) (ha0:0≤a∧a≠124∧a≠41) (h1:nx (rst s j)=d) (hd:d=-1∨d=124):RdC 146 X τ s i j x:=by
 intro e0
 refine z2h fun H hH=>?_
 have hX:H e0 X=some (pbx s i 0 0):=hH ((e0,X),pbx s i 0 0) (by simp)
 have hT:HT τ (e0+1) H:=HT.of (bs:=[((e0,X),pbx s i 0 0)]) hH
 have hr:=h (e0+1)
 have hn1:=z9p (X:=X) τ s i hi 0 0 (e0+1)
 have hn2:=z9p (X:=X) τ s j hj 0 0 (e0+1)
 rw[h0] at hn1
 rw[h1] at hn2
 refine z0g Tryz.func146 (by kernel_rfl) rfl (by simp) ?_
 dsimp only[Tryz.f146]
 obtain⟨op,mn,mx,rs,ks⟩:=x
 replace hx2:op≠2:=hx2
 rw[zcr] at hr ⊢
 repeat' (first|(apply z04;(first|refine z0l ?_| (apply z0j;(refine z8j hn1 rfl (z29 (m:=(e0+1,X)) hX (bkT (by repeat (first|exact hT|refine HT.upd ?_ hX0 hX1)))) (by decide) ?_))|(apply z0i;(refine z0b z1e ?_))))|(apply z05;(first|refine z0k ?_|apply z09))|(apply z06;(first|apply z07|apply z00|apply z01)))
 all_goals try (exfalso;omega)
 refine z7z 4 1000 113 5 rfl rfl rfl ?_
 refine z0t ?_
 refine z3i ?_
 repeat' (first|(apply z04;(first|refine z0l ?_| (apply z0a;(first|refine z02 z18 rfl rfl ?_| refine z02 z2a rfl rfl ?_))|(apply z0d;(refine z02 z1a rfl rfl ?_))|(apply z0x;(first|refine z9o (g:=rxc) (q:=[]) rfl rfl (Rx.mk op mn mx rs ks) (by rw[z4o];rfl) rfl rfl rfl (ze5 _) rfl rfl (by decide) (by decide) ?_|refine z02 (zbl rfl) rfl rfl ?_))|(apply z0j;(first|refine z8z hr rfl hX (bkT (by repeat (first|exact hT|refine HT.upd ?_ hX0 hX1))) (by decide) ?_|refine z8j hn2 rfl (z29 (m:=(e0+1,X)) (z4t _ (e0,X) _) (bkT (by repeat (first|exact hT|refine HT.upd ?_ hX0 hX1)))) (by decide) ?_))|(apply z0f;(refine z2d ?_))|(apply z0i;(refine z0b z1e ?_))|(apply z3t;(refine z3s rfl ?_))))|(apply z05;(first|refine z0k ?_|apply z09|refine z1m ?_| refine z1t (fun _=>?_) (fun _=>?_)| refine z3v rfl rfl (fun _=>?_) (fun _=>?_)))|(apply z06;(first|apply z07|apply z00|refine z1f ?_| apply z08|apply z01|apply z03|refine z0h (fun _=>?_) (fun _=>?_)| refine z3o rfl (fun _=>?_) (fun _=>?_)|refine z0o ?_)))
 all_goals try (exfalso;omega)
 refine z4x 40 1000 rfl rfl ?_
 refine z0e (tm':=[(0,.ptr (e0+1,X) 0),(2,.ptr (0,2) 0),(4,.ref (0,1000)),(5,I .i32 d)]) (hp':=[(1000,.row 113 5 ([Rx.mk op mn mx rs ks].map rxc)),bxZ]) ?_ rfl rfl
 rw[List.map_cons,List.map_nil,z4o]
 refine z19 1000 rfl ?_
 refine z3i ?_
 repeat' (first|(apply z04;(first|refine z0l ?_| (apply z0a;(refine z02 z2j rfl rfl ?_))|(apply z0n;(refine z02 (z23 (u:=rx5 op mn mx rs ks) rfl (by omega) rfl rfl) rfl rfl ?_))|(apply z0x;(refine z02 (z7c rfl) rfl rfl ?_))|(apply z0f;(refine z2d ?_))))|(apply z05;(first|refine z0k ?_|apply z09|refine z1m ?_| refine z1t (fun _=>?_) (fun _=>?_)| refine z3v rfl rfl (fun _=>?_) (fun _=>?_)))|(apply z06;(first|apply z07|apply z00|refine z1b rfl ?_|refine z1f ?_| apply z08|apply z01|refine z3o rfl (fun _=>?_) (fun _=>?_)|refine z0o ?_)))
 all_goals try (exfalso;first|omega|(simp at *;done))
 all_goals ((repeat rw[z50]);first|exact z0c Tryz.func146 _ (z0r rfl rfl rfl rfl rfl rfl rfl) ⟨rfl,rfl⟩|exact z0c Tryz.func146 _ z2m ⟨rfl,rfl⟩|exact z0c Tryz.func146 _ z1j ⟨rfl,rfl⟩|exact z0c Tryz.func146 _ (z5b rfl rfl rfl rfl) ⟨rfl,rfl⟩)
theorem zup (i j:Nat) (x:Rx) (hx3:x.op≠3) (h:RdC 146 X τ s i j x) (hj:j≤s.size) (h1:nx (rst s j)=-1):RdC 120 X τ s i j x:=by
 intro e0
 refine z2h fun H hH=>?_
 have hX:H e0 X=some (pbx s i 0 0):=hH ((e0,X),pbx s i 0 0) (by simp)
 have hT:HT τ (e0+1) H:=HT.of (bs:=[((e0,X),pbx s i 0 0)]) hH
 have hr:=h (e0+1)
 have hn:=z9p (X:=X) τ s j hj 0 0 (e0+1)
 rw[h1] at hn
 refine z0g Tryz.func120 (by kernel_rfl) rfl (by simp) ?_
 dsimp only[Tryz.f120]
 obtain⟨op,mn,mx,rs,ks⟩:=x
 replace hx3:op≠3:=hx3
 rw[zcr] at hr ⊢
 repeat' (first|(apply z04;(first|refine z0l ?_| (apply z0i;(refine z0b z1e ?_))))|(apply z05;(first|refine z0k ?_|apply z09))|(apply z06;(first|apply z07|apply z00|apply z01)))
 all_goals try (exfalso;omega)
 refine z7z 4 1000 113 5 rfl rfl rfl ?_
 refine z0t ?_
 refine z3i ?_
 repeat' (first|(apply z04;(first|refine z0l ?_| (apply z0a;(first|refine z02 z18 rfl rfl ?_| refine z02 z2j rfl rfl ?_| refine z02 z2a rfl rfl ?_))|(apply z0d;(refine z02 z1a rfl rfl ?_))|(apply z0n;(refine z02 (z23 (u:=rx5 op mn mx rs ks) rfl (by omega) rfl rfl) rfl rfl ?_))|(apply z0x;(first|refine z9o (g:=rxc) (q:=[]) rfl rfl (Rx.mk op mn mx rs ks) (by rw[z4o];rfl) rfl rfl rfl (ze5 _) rfl rfl (by decide) (by decide) ?_|refine z02 (z7c rfl) rfl rfl ?_))|(apply z0j;(first|(refine z8j hn rfl (z29 (m:=(e0+1,X)) (z4t _ (e0,X) _) (bkT (by repeat (first|exact hT|refine HT.upd ?_ hX0 hX1)))) (by decide) ?_;refine zb9 25 rfl ?_;rw[List.nil_append,List.map_cons,List.map_nil,z4o])|refine z8z hr rfl hX (bkT (by repeat (first|exact hT|refine HT.upd ?_ hX0 hX1))) (by decide) ?_))|(apply z0f;(refine z2d ?_))|(apply z0i;(refine z0b z1e ?_))|(apply z3t;(refine z3s rfl ?_))))|(apply z05;(first|refine z0k ?_|apply z09))|(apply z06;(first|apply z07|apply z00|refine z1b rfl ?_|refine z1f ?_| apply z08|apply z01|refine z0h (fun _=>?_) (fun _=>?_)| refine z0o ?_)))
 all_goals try (exfalso;omega)
 all_goals ((repeat rw[z50]);first|exact z0c Tryz.func120 _ (z0r rfl rfl rfl rfl rfl rfl rfl) ⟨rfl,rfl⟩|exact z0c Tryz.func120 _ z2m ⟨rfl,rfl⟩|exact z0c Tryz.func120 _ z1j ⟨rfl,rfl⟩|exact z0c Tryz.func120 _ (z5b rfl rfl rfl rfl) ⟨rfl,rfl⟩)
end
theorem zou {P:Program} {f:FuncId} {R:z3x} {k:List Item} {all:Array Oper} {l:List Oper} {n:Nat} {tm:List (Nat × PV)} {hp:Hp} {up:Hf} {d:Nat} {ty:TypeId} {pos:String} {aft:Array Edge} {gd:Option (Nat × Bool)} {p:PV} {g:FuncId} {args:List Operand} {ps:List PV} {ats:Array TypeId} {ms:Nat} {b b':Blk} {bs:List (Nm × Blk)}
 (hsp:z1r P g ps (((0,ms),b)::bs) [((0,ms),b')] p) (hev:St.evs ⟨n,tm,hp,up⟩ args=some ps) (hb:Ab.look hp ms=some b) (hbs:BkE ⟨n,tm,hp,up⟩ bs) (hd:d<n)
 (h:Ops P f R all l k ⟨n,(d,p)::tm,(ms,b')::hp,up⟩):Op1 P f R all ⟨some d,.call ⟨.value (.func g),args.toArray,ats⟩,ty,pos,aft,gd⟩ l k ⟨n,tm,hp,up⟩ :=
 zh9 hsp hev (z29 (m:=(0,ms)) hb hbs) hd rfl h
theorem zf2 (τ:Tab) (s:ByteArray) (hs:s.size≤200) (x:Rx) (hf:fit x) (hx:val x=0) (hu:RdC 120 10 τ s 0 s.size x) (hok:∀ u∈unF 0 (rst s 0),¬ (u.1=65533∧u.2.2=1)) (hsz:(unF 0 (rst s 0)).length≤s.size):z1r Tryz.prog 90 [S s] (z6t τ 0) [] (.tup [.d (eX x),I .i64 0,I .i64 0]):=by
 refine z2h fun H hH=>?_
 have hT:HT τ 0 H:=HT.of (bs:=[]) hH
 have hv:=zdg x hf
 rw[hx] at hv
 have hu:=hu 0
 clear hx hf
 obtain⟨op,mn,mx,rs,ks⟩:=x
 rw[show Drx (.mk op mn mx rs ks)=.agg (rx5 op mn mx rs ks) from zcr _ _ _ _ _] at hv
 rw[zcr] at hu ⊢
 have hsA:s.size≤1000000:=by omega
 refine z0g Tryz.func90 (by kernel_rfl) rfl (by simp) ?_
 dsimp only[Tryz.f90]
 repeat' (first|(apply z04;(first|refine z0l ?_| (apply z0x;(refine z02 (z5q rfl) rfl rfl ?_))|(apply z0f;(refine z2d ?_))|(apply z0i;(refine z0b z1e ?_))|(apply z1i;(refine z2x ?_))))|(apply z05;(first|refine z0k ?_|apply z09))|(apply z06;(first|apply z07|apply z00|apply z08|apply z01|refine z0h (fun _=>?_) (fun _=>?_))))
 all_goals try (exfalso;omega)
 obtain⟨L,hL⟩:∃ L,unF 0 (rst s 0)=L:=⟨_,rfl⟩
 rw[hL] at hok hsz
 refine z0t ?_
 refine z0e (z1v (fun q:Nat=>⟨66,[(0,S s),(2,.ptr (0,2) 0),(5,I .i64 (q:Nat))],[(2,.box (z4u [Value.int .i64 0,Value.int .i64 0,Value.int .i64 0,z1k,z1k]))],H⟩)
  (fun q=>q≤L.length) (fun q=>L.length-q) ?_ 0 (zAf _)) rfl rfl
 intro q i1 ih
 have hat:=zz6 s hsA q (by omega)
 rw[atR,hL] at hat
 by_cases hlt:q<L.length
 · obtain⟨u,hu⟩:∃ u,L[q]? =some u:=⟨_,zA0 hlt⟩
   rw[hu] at hat
   simp only at hat
   have hnb:=hok u (zA2 hu)
   repeat' (first|(apply z04;(first|refine z0l ?_| (apply z0z;(refine z02 (z14 z1p) rfl rfl ?_))|(apply z0j;(refine z2s hat ?_))|(apply z0f;(refine z2d ?_))|(apply z1i;(refine z2x ?_))))|(apply z05;(first|refine z0k ?_|apply z09|refine z1m ?_| refine z1t (fun _=>?_) (fun _=>?_)))|(apply z06;(first|apply z07|apply z00|refine z1f ?_| apply z08|apply z01|apply z03|refine z0h (fun _=>?_) (fun _=>?_))))
   all_goals exact zD56
 · obtain rfl:q=L.length:=by omega
   rw[zAu (zAj _)] at hat
   simp only at hat
   clear ih
   repeat' (first|(apply z04;(first|refine z0l ?_| (apply z0a;(first|refine z02 z18 rfl rfl ?_| refine z02 z2a rfl rfl ?_))|(apply z0d;(refine z02 z1a rfl rfl ?_))|(apply z0x;(refine z02 (z5q rfl) rfl rfl ?_))|(apply z0j;(first|refine zou hu rfl rfl (bkT hT) (by decide) ?_|refine z2s hat ?_| refine z2s hv ?_))|(apply z0f;(refine z2d ?_))|(apply z0i;(refine z0b z1e ?_))|(apply z1i;(refine z2x ?_))))|(apply z05;(first|refine z0k ?_|apply z09))|(apply z06;(first|apply z07|apply z00|refine z1b rfl ?_|refine z1f ?_| apply z08|apply z01|refine z0h (fun _=>?_) (fun _=>?_)| refine z0o ?_)))
   all_goals try (exfalso;omega)
   all_goals exact z0c Tryz.func90 _ (zfi rfl rfl rfl rfl rfl rfl rfl rfl) ⟨rfl,rfl⟩
end Go.Proofs.YtonhfccmeammbaaGreatDoor
