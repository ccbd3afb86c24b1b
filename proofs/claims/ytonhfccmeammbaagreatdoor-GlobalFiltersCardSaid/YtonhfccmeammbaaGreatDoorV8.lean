/- A part. -/
import Derived.Test.YtonhfccmeammbaaGreatDoorVs
import Derived.Test.YtonhfccmeammbaaGreatDoorVr
set_option linter.all false
open Go.Proofs.Tryz
namespace Go.Proofs.YtonhfccmeammbaaGreatDoor
open Go.Ab Go.Rx
set_option maxHeartbeats 20000000
set_option maxRecDepth 100000
attribute [local irreducible] Run Ops Op1 z1z Val Tr z0q z1v NF Rel z5c z5d
section
variable{X:Nat}(hX0:X≠700)(hX1:X≠701)(τ:Tab)(s:ByteArray)(hs:s.size≤1000000)
abbrev RdC(F:FuncId)(X:Nat)(τ:Tab)(s:ByteArray)(i j:Nat)(x:Rx):Prop:=∀e0,z1v prog F [.ptr (e0,X) 0] (((e0,X),pbx s i 0 0)::z98 τ (e0+1)) [((e0,X),pbx s j 0 0)] (.tup [.d (eX x),B true])
include hX0 hX1 hs
theorem zy8(i:Nat)(c:Int)(hi:i<s.size)(hx:nx (rst s i)=c)(hc:97≤c∧c≤99)(hw:(Utf8.decode s i).2=1)(e0:Nat) :
 z1v prog 198 [.ptr (e0,X) 0,S (spB spA)] (((e0,X),pbx s i 0 0)::z98 τ (e0+1)) [((e0,X),pbx s ((i+1:Nat):Int) 0 0)] (.tup [I .i32 c,B true]):=by
 refine z2a fun H hH=>?_
 have hX:H e0 X=some (pbx s i 0 0):=hH ((e0,X),pbx s i 0 0) (by simp)
 have hT:HT τ (e0+1) H:=HT.of (bs:=[((e0,X),pbx s i 0 0)]) hH
 have hn:=zb0 (X:=X) τ s i (by omega) 0 0 (e0+1)
 have hsk:=y2a (X:=X) τ s i hi hs 0 0 (e0+1)
 rw[hx]at hn
 rw[hw]at hsk
 refine z0g func198 (by kernel_rfl) rfl (by simp) ?_
 dsimp only[f198]
 repeat' first|(apply z05;first|refine z0n ?_| (apply z0a;refine z5j rfl hX rfl rfl rfl rfl (by decide) ?_)|(apply z0c;refine z02 z0i rfl rfl ?_)|(apply z0t;refine z02 (z0z z1h) rfl rfl ?_)|(apply z0j;first|refine z5r hsk rfl hX (bkT (by repeat (first|exact hT|refine HT.upd ?_ hX0 hX1))) (by decide) ?_|refine z4u hn rfl (z2j (m:=(e0+1,X)) hX (bkT (by repeat (first|exact hT|refine HT.upd ?_ hX0 hX1)))) (by decide) ?_))|(apply z06;first|refine z0m ?_|apply z09)|(apply z07;first|apply z08|apply z00|apply z04|refine z0h (fun _=>?_) fun _=>?_)
 all_goals try omega
 all_goals ((repeat rw[z3l]);first|exact z0e func198 _ (z11 rfl rfl rfl rfl rfl rfl rfl) ⟨rfl,rfl⟩|exact z0e func198 _ z2s ⟨rfl,rfl⟩|exact z0e func198 _ z0p ⟨rfl,rfl⟩|exact z0e func198 _ (z4i rfl rfl rfl rfl) ⟨rfl,rfl⟩)
theorem zk5(i:Nat)(c:Int)(hi:i<s.size)(hx:nx (rst s i)=c)(hc:97≤c∧c≤99)(hw:(Utf8.decode s i).2=1):RdC 184 X τ s i (i+1) (Rx.one c c):=by
 intro e0
 refine z2a fun H hH=>?_
 have hX:H e0 X=some (pbx s i 0 0):=hH ((e0,X),pbx s i 0 0) (by simp)
 have hT:HT τ (e0+1) H:=HT.of (bs:=[((e0,X),pbx s i 0 0)]) hH
 have hn:=zb0 (X:=X) τ s i (by omega) 0 0 (e0+1)
 have hcr:=zew y6l (nx (rst s i)) (zx3 s i).1 (zx3 s i).2
 have ho:=y1s c c
 have hch:=zy8 hX0 hX1 τ s hs i c hi hx hc hw (e0+1)
 refine z0g func184 (by kernel_rfl) rfl (by simp) ?_
 dsimp only[f184]
 rw[zqh]at ho⊢
 rw[hx]at hn hcr
 rw[show spA.contains c=false from by rcases(show c=97∨c=98∨c=99 by omega)with rfl|rfl|rfl <;> rfl]at hcr
 repeat' first|(apply z05;first|refine z0n ?_| (apply z0a;refine z5j rfl hX rfl rfl rfl rfl (by decide) ?_)|(apply z0c;refine z02 z0i rfl rfl ?_)|(apply z0t;refine z02 (z0z z1h) rfl rfl ?_)|(apply z0j;first|refine z5r hch rfl hX (bkT (by repeat (first|exact hT|refine HT.upd ?_ hX0 hX1))) (by decide) ?_|refine z4u hn rfl (z2j (m:=(e0+1,X)) hX (bkT (by repeat (first|exact hT|refine HT.upd ?_ hX0 hX1)))) (by decide) ?_|refine z29 hcr ?_| refine z29 ho ?_)|(apply z0f;refine z25 ?_)|(apply z0l;refine z0b z2e ?_))|(apply z06;first|refine z0m ?_|apply z09|refine z1g ?_| refine z39 rfl rfl (fun _=>?_) fun _=>?_)|(apply z07;first|apply z08|apply z00|refine z15 ?_| apply z04|apply z01|apply z03|refine z0h (fun _=>?_) fun _=>?_)
 all_goals exact zD55
theorem y0t(i:Nat)(hi:i<s.size)(hx:nx (rst s i)=46):RdC 184 X τ s i (i+1) (.mk 1 0 0 [(0,1114111)] []):=by
 intro e0
 refine z2a fun H hH=>?_
 have hX:H e0 X=some (pbx s i 0 0):=hH ((e0,X),pbx s i 0 0) (by simp)
 have hT:HT τ (e0+1) H:=HT.of (bs:=[((e0,X),pbx s i 0 0)]) hH
 have hn:=zb0 (X:=X) τ s i (by omega) 0 0 (e0+1)
 have ho:=y1s 0 1114111
 refine z0g func184 (by kernel_rfl) rfl (by simp) ?_
 dsimp only[f184]
 rw[zqh]at ho
 rw[z7u]
 rw[hx]at hn
 repeat' first|(apply z05;first|refine z0n ?_| (apply z0a;refine z5j rfl hX rfl rfl rfl rfl (by decide) ?_)|(apply z0c;refine z02 z0i rfl rfl ?_)|(apply z0t;refine z02 (z0z z1h) rfl rfl ?_)|(apply z0j;first|refine z4u hn rfl (z2j (m:=(e0+1,X)) hX (bkT (by repeat (first|exact hT|refine HT.upd ?_ hX0 hX1)))) (by decide) ?_|refine z29 ho ?_)|(apply z0f;first|refine z5k (raw':=pbx s ((i+1:Nat):Int) 0 0) rfl hX rfl rfl rfl rfl rfl rfl ?_|refine z25 ?_)|(apply z0l;refine z0b z2e ?_))|(apply z06;first|refine z0m ?_|apply z09)|(apply z07;first|apply z08|apply z00|refine z1j ?_| refine z15 ?_| apply z01)
 all_goals exact zD55
theorem zmi(i j:Nat)(x:Rx)(h:RdC 184 X τ s i j x)(hj:j≤s.size)(d:Int)(hd:nx (rst s j)=d)(hdd:d≠42∧d≠43∧d≠63∧d≠123):RdC 168 X τ s i j x:=by
 intro e0
 refine z2a fun H hH=>?_
 have hX:H e0 X=some (pbx s i 0 0):=hH ((e0,X),pbx s i 0 0) (by simp)
 have hT:HT τ (e0+1) H:=HT.of (bs:=[((e0,X),pbx s i 0 0)]) hH
 have ha:=h (e0+1)
 have hn:=zb0 (X:=X) τ s j hj 0 0 (e0+1)
 rw[hd]at hn
 refine z0g func168 (by kernel_rfl) rfl (by simp) ?_
 dsimp only[f168]
 obtain⟨op,mn,mx,rs,ks⟩:=x
 rw[z7u]at ha⊢
 repeat' first|(apply z05;first|refine z0n ?_| (apply z0j;refine z5r ha rfl hX (bkT (by repeat (first|exact hT|refine HT.upd ?_ hX0 hX1))) (by decide) ?_)|(apply z0f;refine z25 ?_)|(apply z0l;refine z0b z2e ?_))|(apply z06;first|refine z0m ?_|apply z09)|(apply z07;first|apply z08|apply z00|apply z01)
 all_goals try omega
 refine z0r ?_
 refine z1u ?_
 repeat' first|(apply z05;first|refine z0n ?_| (apply z0a;first|refine z5j rfl (z3w _ (e0,X) _) rfl rfl rfl rfl (by decide) ?_|refine z02 z1y rfl rfl ?_)|(apply z0c;refine z02 z0i rfl rfl ?_)|(apply z0t;refine z02 (z0z z1h) rfl rfl ?_)|(apply z0j;refine z4u hn rfl (z2j (m:=(e0+1,X)) (z3w _ (e0,X) _) (bkT (by repeat (first|exact hT|refine HT.upd ?_ hX0 hX1)))) (by decide) ?_)|(apply z0f;refine z25 ?_))|(apply z06;first|refine z0m ?_|apply z09)|(apply z07;first|apply z08|apply z00|refine z1j ?_| apply z04|apply z01|apply z03|refine z0h (fun _=>?_) fun _=>?_)
 all_goals try omega
 all_goals ((repeat rw[z3l]);first|exact z0e func168 _ (z11 rfl rfl rfl rfl rfl rfl rfl) ⟨rfl,rfl⟩|exact z0e func168 _ z2s ⟨rfl,rfl⟩|exact z0e func168 _ z0p ⟨rfl,rfl⟩|exact z0e func168 _ (z4i rfl rfl rfl rfl) ⟨rfl,rfl⟩)
abbrev bxZ:Nat × Blk:=(2,.box (z5q [Value.int .i64 0,Value.int .i64 0,Value.int .i64 0,z1t,z1t]))
theorem zmb(i j:Nat)(x:Rx)(hx2:x.op≠2)(h:RdC 168 X τ s i j x)(hi:i≤s.size)(hj:j≤s.size)(a d:Int)(h0:nx (rst s i)=a)(ha0:0≤a∧a≠124∧a≠41)(h1:nx (rst s j)=d)(hd:d=-1∨d=124):RdC 146 X τ s i j x:=by
 intro e0
 refine z2a fun H hH=>?_
 have hX:H e0 X=some (pbx s i 0 0):=hH ((e0,X),pbx s i 0 0) (by simp)
 have hT:HT τ (e0+1) H:=HT.of (bs:=[((e0,X),pbx s i 0 0)]) hH
 have hr:=h (e0+1)
 have hn1:=zb0 (X:=X) τ s i hi 0 0 (e0+1)
 have hn2:=zb0 (X:=X) τ s j hj 0 0 (e0+1)
 rw[h0]at hn1
 rw[h1]at hn2
 refine z0g func146 (by kernel_rfl) rfl (by simp) ?_
 dsimp only[f146]
 obtain⟨op,mn,mx,rs,ks⟩:=x
 replace hx2:op≠2:=hx2
 rw[z7u]at hr⊢
 repeat' first|(apply z05;first|refine z0n ?_| (apply z0j;refine z4u hn1 rfl (z2j (m:=(e0+1,X)) hX (bkT (by repeat (first|exact hT|refine HT.upd ?_ hX0 hX1)))) (by decide) ?_)|(apply z0l;refine z0b z2e ?_))|(apply z06;first|refine z0m ?_|apply z09)|(apply z07;first|apply z08|apply z00|apply z01)
 all_goals try omega
 refine z6n 4 1000 113 5 rfl rfl rfl ?_
 refine z0r ?_
 refine z1u ?_
 repeat' first|(apply z05;first|refine z0n ?_| (apply z0a;first|refine z02 z16 rfl rfl ?_| refine z02 z1y rfl rfl ?_)|(apply z0c;refine z02 z0i rfl rfl ?_)|(apply z0s;first|refine z7l (g:=rxc) (q:=[]) rfl rfl (Rx.mk op mn mx rs ks) (by rw[z3i];rfl) rfl rfl rfl (z8k _) rfl rfl (by decide) (by decide) ?_|refine z02 (z6g rfl) rfl rfl ?_)|(apply z0j;first|refine z5r hr rfl hX (bkT (by repeat (first|exact hT|refine HT.upd ?_ hX0 hX1))) (by decide) ?_|refine z4u hn2 rfl (z2j (m:=(e0+1,X)) (z3w _ (e0,X) _) (bkT (by repeat (first|exact hT|refine HT.upd ?_ hX0 hX1)))) (by decide) ?_)|(apply z0f;refine z25 ?_)|(apply z0l;refine z0b z2e ?_)|(apply z3c;refine z3b rfl ?_))|(apply z06;first|refine z0m ?_|apply z09|refine z1g ?_| refine z1p (fun _=>?_) (fun _=>?_)| refine z39 rfl rfl (fun _=>?_) fun _=>?_)|(apply z07;first|apply z08|apply z00|refine z15 ?_| apply z04|apply z01|apply z03|refine z0h (fun _=>?_) (fun _=>?_)| refine z38 rfl (fun _=>?_) (fun _=>?_)|refine z0o ?_)
 all_goals try omega
 refine z4n 40 1000 rfl rfl ?_
 refine z0d (tm':=[(0,.ptr (e0+1,X) 0),(2,.ptr (0,2) 0),(4,.ref (0,1000)),(5,I .i32 d)]) (hp':=[(1000,.row 113 5 ([Rx.mk op mn mx rs ks].map rxc)),bxZ]) ?_ rfl rfl
 rw[List.map_cons,List.map_nil,z3i]
 refine z1f 1000 rfl ?_
 refine z1u ?_
 repeat' first|(apply z05;first|refine z0n ?_| (apply z0a;refine z02 z1w rfl rfl ?_)|(apply z0k;refine z02 (z5h (u:=rx5 op mn mx rs ks) rfl) rfl rfl ?_)|(apply z0s;refine z02 (z4a rfl) rfl rfl ?_)|(apply z0f;refine z25 ?_))|(apply z06;first|refine z0m ?_|apply z09|refine z1g ?_| refine z1p (fun _=>?_) (fun _=>?_)| refine z39 rfl rfl (fun _=>?_) fun _=>?_)|(apply z07;first|apply z08|apply z00|refine z1j ?_| refine z15 ?_| apply z04|apply z01|refine z38 rfl (fun _=>?_) (fun _=>?_)|refine z0o ?_)
 all_goals try (exfalso;first|omega|(simp at *;done))
 all_goals ((repeat rw[z3l]);first|exact z0e func146 _ (z11 rfl rfl rfl rfl rfl rfl rfl) ⟨rfl,rfl⟩|exact z0e func146 _ z2s ⟨rfl,rfl⟩|exact z0e func146 _ z0p ⟨rfl,rfl⟩|exact z0e func146 _ (z4i rfl rfl rfl rfl) ⟨rfl,rfl⟩)
theorem y2i(i j:Nat)(x:Rx)(hx3:x.op≠3)(h:RdC 146 X τ s i j x)(hj:j≤s.size)(h1:nx (rst s j)=-1):RdC 120 X τ s i j x:=by
 intro e0
 refine z2a fun H hH=>?_
 have hX:H e0 X=some (pbx s i 0 0):=hH ((e0,X),pbx s i 0 0) (by simp)
 have hT:HT τ (e0+1) H:=HT.of (bs:=[((e0,X),pbx s i 0 0)]) hH
 have hr:=h (e0+1)
 have hn:=zb0 (X:=X) τ s j hj 0 0 (e0+1)
 rw[h1]at hn
 refine z0g func120 (by kernel_rfl) rfl (by simp) ?_
 dsimp only[f120]
 obtain⟨op,mn,mx,rs,ks⟩:=x
 replace hx3:op≠3:=hx3
 rw[z7u]at hr⊢
 repeat' first|(apply z05;first|refine z0n ?_| (apply z0l;refine z0b z2e ?_))|(apply z06;first|refine z0m ?_|apply z09)|(apply z07;first|apply z08|apply z00|apply z01)
 all_goals try omega
 refine z6n 4 1000 113 5 rfl rfl rfl ?_
 refine z0r ?_
 refine z1u ?_
 repeat' first|(apply z05;first|refine z0n ?_| (apply z0a;first|refine z02 z16 rfl rfl ?_| refine z02 z1w rfl rfl ?_| refine z02 z1y rfl rfl ?_)|(apply z0c;refine z02 z0i rfl rfl ?_)|(apply z0k;refine z02 (z5h (u:=rx5 op mn mx rs ks) rfl) rfl rfl ?_)|(apply z0s;first|refine z7l (g:=rxc) (q:=[]) rfl rfl (Rx.mk op mn mx rs ks) (by rw[z3i];rfl) rfl rfl rfl (z8k _) rfl rfl (by decide) (by decide) ?_|refine z02 (z4a rfl) rfl rfl ?_)|(apply z0j;first|(refine z4u hn rfl (z2j (m:=(e0+1,X)) (z3w _ (e0,X) _) (bkT (by repeat (first|exact hT|refine HT.upd ?_ hX0 hX1)))) (by decide) ?_;refine zd8 25 rfl ?_;rw[List.nil_append,List.map_cons,List.map_nil,z3i])|refine z5r hr rfl hX (bkT (by repeat (first|exact hT|refine HT.upd ?_ hX0 hX1))) (by decide) ?_)|(apply z0f;refine z25 ?_)|(apply z0l;refine z0b z2e ?_)|(apply z3c;refine z3b rfl ?_))|(apply z06;first|refine z0m ?_|apply z09)|(apply z07;first|apply z08|apply z00|refine z1j ?_| refine z15 ?_| apply z04|apply z01|refine z0h (fun _=>?_) (fun _=>?_)| refine z0o ?_)
 all_goals try omega
 all_goals ((repeat rw[z3l]);first|exact z0e func120 _ (z11 rfl rfl rfl rfl rfl rfl rfl) ⟨rfl,rfl⟩|exact z0e func120 _ z2s ⟨rfl,rfl⟩|exact z0e func120 _ z0p ⟨rfl,rfl⟩|exact z0e func120 _ (z4i rfl rfl rfl rfl) ⟨rfl,rfl⟩)
end
theorem zvr{P:Program}{f:FuncId}{R:z4b}{k:List Item}{all:Array Oper}{l:List Oper}{n:Nat}{tm:List (Nat × PV)}{hp:Hp}{up:Hf}{d:Nat}{ty:TypeId}{pos:String}{aft:Array Edge}{gd:Option (Nat × Bool)}{p:PV}{g:FuncId}{args:List Operand}{ps:List PV}{ats:Array TypeId}{ms:Nat}{b b':Blk}{bs:List (Nm × Blk)}
 (hsp:z1v P g ps (((0,ms),b)::bs) [((0,ms),b')] p) (hev:St.evs ⟨n,tm,hp,up⟩ args=some ps) (hb:Ab.look hp ms=some b) (hbs:BkE ⟨n,tm,hp,up⟩ bs) (hd:d<n)
 (h:Ops P f R all l k ⟨n,(d,p)::tm,(ms,b')::hp,up⟩):Op1 P f R all ⟨some d,.call ⟨.value (.func g),args.toArray,ats⟩,ty,pos,aft,gd⟩ l k ⟨n,tm,hp,up⟩ :=
 zj7 hsp hev (z2j (m:=(0,ms)) hb hbs) hd rfl h
theorem zgp(τ:Tab)(s:ByteArray)(hs:s.size≤200)(x:Rx)(hf:fit x)(hx:val x=0)(hu:RdC 120 10 τ s 0 s.size x)(hok:∀u∈unF 0 (rst s 0),¬(u.1=65533∧u.2.2=1))(hsz:(unF 0 (rst s 0)).length≤s.size):z1v prog 90 [S s] (z98 τ 0) [] (.tup [.d (eX x),I .i64 0,I .i64 0]):=by
 refine z2a fun H hH=>?_
 have hT:HT τ 0 H:=HT.of (bs:=[]) hH
 have hv:=zff x hf
 rw[hx]at hv
 have hu:=hu 0
 clear hx hf
 obtain⟨op,mn,mx,rs,ks⟩:=x
 rw[show Drx (.mk op mn mx rs ks)=.agg (rx5 op mn mx rs ks)from z7u _ _ _ _ _]at hv
 rw[z7u]at hu⊢
 have hsA:s.size≤1000000:=by omega
 refine z0g func90 (by kernel_rfl) rfl (by simp) ?_
 dsimp only[f90]
 repeat' first|(apply z05;first|refine z0n ?_| (apply z0s;refine z02 (z63 rfl) rfl rfl ?_)|(apply z0f;refine z25 ?_)|(apply z0l;refine z0b z2e ?_)|(apply z1n;refine z2y ?_))|(apply z06;first|refine z0m ?_|apply z09)|(apply z07;first|apply z08|apply z00|apply z04|apply z01|refine z0h (fun _=>?_) fun _=>?_)
 all_goals try omega
 obtain⟨L,hL⟩:∃L,unF 0 (rst s 0)=L:=⟨_,rfl⟩
 rw[hL]at hok hsz
 refine z0r ?_
 refine z0d (z1o (fun q:Nat=>⟨66,[(0,S s),(2,.ptr (0,2) 0),(5,I .i64 (q:Nat))],[(2,.box (z5q [Value.int .i64 0,Value.int .i64 0,Value.int .i64 0,z1t,z1t]))],H⟩)
  (fun q=>q≤L.length) (fun q=>L.length-q) ?_ 0 (zAf _)) rfl rfl
 intro q i1 ih
 have hat:=y6s s hsA q (by omega)
 rw[atR,hL]at hat
 by_cases hlt:q<L.length
 ·obtain⟨u,hu⟩:∃u,L[q]? =some u:=⟨_,zA0 hlt⟩
  rw[hu]at hat
  simp only at hat
  have hnb:=hok u (zA2 hu)
  repeat' first|(apply z05;first|refine z0n ?_| (apply z0t;refine z02 (z0z z1h) rfl rfl ?_)|(apply z0j;refine z29 hat ?_)|(apply z0f;refine z25 ?_)|(apply z1n;refine z2y ?_))|(apply z06;first|refine z0m ?_|apply z09|refine z1g ?_| refine z1p (fun _=>?_) fun _=>?_)|(apply z07;first|apply z08|apply z00|refine z15 ?_| apply z04|apply z01|apply z03|refine z0h (fun _=>?_) fun _=>?_)
  all_goals exact zD63
 ·obtain rfl:q=L.length:=by omega
  rw[zAv (zAj _)]at hat
  simp only at hat
  clear ih
  repeat' first|(apply z05;first|refine z0n ?_| (apply z0a;first|refine z02 z16 rfl rfl ?_| refine z02 z1y rfl rfl ?_)|(apply z0c;refine z02 z0i rfl rfl ?_)|(apply z0s;refine z02 (z63 rfl) rfl rfl ?_)|(apply z0j;first|refine zvr hu rfl rfl (bkT hT) (by decide) ?_|refine z29 hat ?_| refine z29 hv ?_)|(apply z0f;refine z25 ?_)|(apply z0l;refine z0b z2e ?_)|(apply z1n;refine z2y ?_))|(apply z06;first|refine z0m ?_|apply z09)|(apply z07;first|apply z08|apply z00|refine z1j ?_| refine z15 ?_| apply z04|apply z01|refine z0h (fun _=>?_) (fun _=>?_)| refine z0o ?_)
  all_goals try omega
  all_goals exact z0e func90 _ (zce rfl rfl rfl rfl rfl rfl rfl rfl) ⟨rfl,rfl⟩
end Go.Proofs.YtonhfccmeammbaaGreatDoor
