/- A part. -/
import Derived.Test.YtmcggompdmngmaaGreatDoorXs
import Derived.Test.YtmcggompdmngmaaGreatDoorXr
set_option linter.all false
open Go.Proofs.Tryz
namespace Go.Proofs.YtmcggompdmngmaaGreatDoor
open Go.Ab Go.Rx
set_option maxHeartbeats 20000000
set_option maxRecDepth 100000
attribute [local irreducible] Run Ops Op1 z0y Val Tr z0a z0u NF Rel z27 z29
section
variable{X:Nat}(hX0:X≠700)(hX1:X≠701)(τ:Tab)(s:ByteArray)(hs:s.size≤1000000)
abbrev RdC(F:FuncId)(X:Nat)(τ:Tab)(s:ByteArray)(i j:Nat)(x:Rx):Prop:=∀e0,z0u prog F [.ptr (e0,X) 0] (((e0,X),pbx s i 0 0)::zr3 τ (e0+1)) [((e0,X),pbx s j 0 0)] (.tup [.d (eX x),B true])
include hX0 hX1 hs
theorem y36(i:Nat)(c:Int)(hi:i<s.size)(hx:nx (rst s i)=c)(hc:97≤c∧c≤99)(hw:(Utf8.decode s i).2=1)(e0:Nat) :
 z0u prog 210 [.ptr (e0,X) 0,S (spB spA)] (((e0,X),pbx s i 0 0)::zr3 τ (e0+1)) [((e0,X),pbx s ((i+1:Nat):Int) 0 0)] (.tup [I .i32 c,B true]):=by
 refine z0v fun H hH=>?_
 have hX:H e0 X=some (pbx s i 0 0):=hH ((e0,X),pbx s i 0 0) (by simp)
 have hT:HT τ (e0+1) H:=HT.of (bs:=[((e0,X),pbx s i 0 0)]) hH
 have hn:=z8s (X:=X) τ s i (by omega) 0 0 (e0+1)
 have hsk:=y9l (X:=X) τ s i hi hs 0 0 (e0+1)
 rw[hx]at hn
 rw[hw]at hsk
 refine z05 func210 (by kernel_rfl) rfl (by simp) ?_
 dsimp only[f210]
 repeat' first|(apply z1f;refine zcl hX ?_)|(apply z06;first|refine zl5 hsk hX (bkT (by repeat (first|exact hT|refine HT.upd ?_ hX0 hX1))) ?_| refine z3x hn (z1q (m:=(e0+1,X)) hX (bkT (by repeat (first|exact hT|refine HT.upd ?_ hX0 hX1)))) ?_)|refine z04 ?_|refine fk (fun _=>?_) fun _=>?_
 all_goals try omega
 all_goals ((repeat rw[z1v]);first|exact z03 func210 _ (z0h rfl rfl rfl rfl rfl rfl rfl) ⟨rfl,rfl⟩|exact z03 func210 _ z1z ⟨rfl,rfl⟩|exact z03 func210 _ z1h ⟨rfl,rfl⟩|exact z03 func210 _ z7k ⟨rfl,rfl⟩)
theorem zla(i:Nat)(c:Int)(hi:i<s.size)(hx:nx (rst s i)=c)(hc:97≤c∧c≤99)(hw:(Utf8.decode s i).2=1):RdC 196 X τ s i (i+1) (Rx.one c c):=by
 intro e0
 refine z0v fun H hH=>?_
 have hX:H e0 X=some (pbx s i 0 0):=hH ((e0,X),pbx s i 0 0) (by simp)
 have hT:HT τ (e0+1) H:=HT.of (bs:=[((e0,X),pbx s i 0 0)]) hH
 have hn:=z8s (X:=X) τ s i (by omega) 0 0 (e0+1)
 have hcr:=zex ydt (nx (rst s i)) (y18 s i).1 (y18 s i).2
 have ho:=y9v c c
 have hch:=y36 hX0 hX1 τ s hs i c hi hx hc hw (e0+1)
 refine z05 func196 (by kernel_rfl) rfl (by simp) ?_
 dsimp only[f196]
 rw[y2m]at ho⊢
 rw[hx]at hn hcr
 rw[show spA.contains c=false from by rcases(show c=97∨c=98∨c=99 by omega)with rfl|rfl|rfl <;> rfl]at hcr
 repeat' first|(apply z1f;refine zcl hX ?_)|(apply z06;first|refine zl5 hch hX (bkT (by repeat (first|exact hT|refine HT.upd ?_ hX0 hX1))) ?_| refine z3x hn (z1q (m:=(e0+1,X)) hX (bkT (by repeat (first|exact hT|refine HT.upd ?_ hX0 hX1)))) ?_| refine z1o hcr ?_| refine z1o ho ?_)|refine z04 ?_|refine fk (fun _=>?_) fun _=>?_
 all_goals exact zD75
theorem y4y(i:Nat)(hi:i<s.size)(hx:nx (rst s i)=46):RdC 196 X τ s i (i+1) (.mk 1 0 0 [(0,1114111)] []):=by
 intro e0
 refine z0v fun H hH=>?_
 have hX:H e0 X=some (pbx s i 0 0):=hH ((e0,X),pbx s i 0 0) (by simp)
 have hT:HT τ (e0+1) H:=HT.of (bs:=[((e0,X),pbx s i 0 0)]) hH
 have hn:=z8s (X:=X) τ s i (by omega) 0 0 (e0+1)
 have ho:=y9v 0 1114111
 refine z05 func196 (by kernel_rfl) rfl (by simp) ?_
 dsimp only[f196]
 rw[y2m]at ho
 rw[zmo]
 rw[hx]at hn
 repeat' first|(apply z1f;refine zcl hX ?_)|(apply z06;first|refine z3x hn (z1q (m:=(e0+1,X)) hX (bkT (by repeat (first|exact hT|refine HT.upd ?_ hX0 hX1)))) ?_| refine z1o ho ?_)|(apply z0x;refine zmr (raw':=pbx s ((i+1:Nat):Int) 0 0) hX ?_)|refine z04 ?_|fail
 all_goals exact zD75
theorem zsj(i j:Nat)(x:Rx)(h:RdC 196 X τ s i j x)(hj:j≤s.size)(d:Int)(hd:nx (rst s j)=d)(hdd:d≠42∧d≠43∧d≠63∧d≠123):RdC 164 X τ s i j x:=by
 intro e0
 refine z0v fun H hH=>?_
 have hX:H e0 X=some (pbx s i 0 0):=hH ((e0,X),pbx s i 0 0) (by simp)
 have hT:HT τ (e0+1) H:=HT.of (bs:=[((e0,X),pbx s i 0 0)]) hH
 have ha:=h (e0+1)
 have hn:=z8s (X:=X) τ s j hj 0 0 (e0+1)
 rw[hd]at hn
 refine z05 func164 (by kernel_rfl) rfl (by simp) ?_
 dsimp only[f164]
 obtain⟨op,mn,mx,rs,ks⟩:=x
 rw[zmo]at ha⊢
 repeat' first|(apply z06;refine zl5 ha hX (bkT (by repeat (first|exact hT|refine HT.upd ?_ hX0 hX1))) ?_)|refine z04 ?_|fail
 all_goals try omega
 refine z0f ?_
 refine z5d ?_
 repeat' first|(apply z1f;refine zcl (z3y _ (e0,X) _) ?_)|(apply z06;refine z3x hn (z1q (m:=(e0+1,X)) (z3y _ (e0,X) _) (bkT (by repeat (first|exact hT|refine HT.upd ?_ hX0 hX1)))) ?_)|refine z04 ?_|refine fk (fun _=>?_) fun _=>?_
 all_goals exact zD76
theorem y9p(i j:Nat)(x:Rx)(h:RdC 196 X τ s i j x)(hj:j<s.size)(hd:nx (rst s j)=42)(he:nx (rst s (j+1))=-1):RdC 164 X τ s i (j+1) (.mk 4 0 (-1) [] [x]):=by
 intro e0
 refine z0v fun H hH=>?_
 have hX:H e0 X=some (pbx s i 0 0):=hH ((e0,X),pbx s i 0 0) (by simp)
 have hT:HT τ (e0+1) H:=HT.of (bs:=[((e0,X),pbx s i 0 0)]) hH
 have ha:=h (e0+1)
 have hn:=z8s (X:=X) τ s j (by omega) 0 0 (e0+1)
 have hn5:=z8s (X:=X) τ s (j+1) (by omega) 0 0 (e0+1)
 rw[hd]at hn
 rw[he]at hn5
 refine z05 func164 (by kernel_rfl) rfl (by simp) ?_
 dsimp only[f164]
 obtain⟨op,mn,mx,rs,ks⟩:=x
 rw[zmo]at ha⊢
 rw[show rx5 4 0 (-1) [] [Rx.mk op mn mx rs ks]=[z2i 4,z2i 0,z2i (-1),rgs [],.slice [rx5 op mn mx rs ks]] by rw[rx5,List.map_cons,List.map_nil,z4h]]
 repeat' first|(apply z06;refine zl5 ha hX (bkT (by repeat (first|exact hT|refine HT.upd ?_ hX0 hX1))) ?_)|refine z04 ?_|fail
 all_goals try omega
 refine z0f ?_
 refine z5d ?_
 repeat' first|(apply z1f;refine zcl (z3y _ (e0,X) _) ?_)|(apply z06;refine z3x hn (z1q (m:=(e0+1,X)) (z3y _ (e0,X) _) (bkT (by repeat (first|exact hT|refine HT.upd ?_ hX0 hX1)))) ?_)|(apply z0x;refine zmr (raw':=pbx s ((j+1:Nat):Int) 0 0) (z3y _ (e0,X) _) ?_)|refine z04 ?_|fail
 all_goals try omega
 refine z5d ?_
 repeat' first|(apply z06;refine z3x hn5 (z1q (m:=(e0+1,X)) (z3y _ (e0,X) _) (bkT (by repeat (first|exact hT|refine HT.upd ?_ hX0 hX1)))) ?_)|refine z04 ?_|fail
 all_goals exact zD76
abbrev bxZ:Nat × Blk:=(2,.box (z7v [Value.int .i64 0,Value.int .i64 0,Value.int .i64 0,z2n,z2n]))
theorem y27(i j k:Nat)(x y:Rx)(hx2:x.op≠2)(hy2:y.op≠2)(h:RdC 164 X τ s i j x)(h':RdC 164 X τ s j k y)(hi:i≤s.size)(hj:j≤s.size)(hk:k≤s.size)(a b d:Int)(h0:nx (rst s i)=a)(ha0:0≤a∧a≠124∧a≠41)(h1:nx (rst s j)=b)(hb0:0≤b∧b≠124∧b≠41)(h2:nx (rst s k)=d)(hd:d=-1∨d=124):RdC 128 X τ s i k (.mk 2 0 0 [] [x,y]):=by
 intro e0
 refine z0v fun H hH=>?_
 have hX:H e0 X=some (pbx s i 0 0):=hH ((e0,X),pbx s i 0 0) (by simp)
 have hT:HT τ (e0+1) H:=HT.of (bs:=[((e0,X),pbx s i 0 0)]) hH
 have hr1:=h (e0+1)
 have hr2:=h' (e0+1)
 have hn1:=z8s (X:=X) τ s i hi 0 0 (e0+1)
 have hn2:=z8s (X:=X) τ s j hj 0 0 (e0+1)
 have hn3:=z8s (X:=X) τ s k hk 0 0 (e0+1)
 rw[h0]at hn1
 rw[h1]at hn2
 rw[h2]at hn3
 refine z05 func128 (by kernel_rfl) rfl (by simp) ?_
 dsimp only[f128]
 obtain⟨op,mn,mx,rs,ks⟩:=x
 replace hx2:op≠2:=hx2
 obtain⟨op',mn',mx',rs',ks'⟩:=y
 replace hy2:op'≠2:=hy2
 rw[zmo]at hr1 hr2⊢
 repeat' first|(apply z06;refine z3x hn1 (z1q (m:=(e0+1,X)) hX (bkT (by repeat (first|exact hT|refine HT.upd ?_ hX0 hX1)))) ?_)|refine z04 ?_|fail
 all_goals try omega
 refine z1j 4 1000 51 5 rfl rfl rfl ?_
 refine z0f ?_
 refine z5d ?_
 repeat' first|(apply z14;refine z4x (g:=rxc) (q:=[]) rfl rfl (Rx.mk op mn mx rs ks) (by rw[z4h];rfl) rfl rfl rfl (zaq _) rfl rfl (by decide) (by decide) ?_)|(apply z06;first|refine zl5 hr1 hX (bkT (by repeat (first|exact hT|refine HT.upd ?_ hX0 hX1))) ?_| refine z3x hn2 (z1q (m:=(e0+1,X)) (z3y _ (e0,X) _) (bkT (by repeat (first|exact hT|refine HT.upd ?_ hX0 hX1)))) ?_)|refine z04 ?_|refine fk (fun _=>?_) fun _=>?_
 all_goals try omega
 refine z1d 40 1000 ?_
 refine z00 (tm':=[(0,.ptr (e0+1,X) 0),(2,.ptr (0,2) 0),(4,.ref (0,1000)),(5,I .i32 b)]) (hp':=[(1000,.row 51 5 ([Rx.mk op mn mx rs ks].map rxc)),bxZ]) ?_ rfl rfl
 refine z5d ?_
 repeat' first|(apply z14;refine z4x (g:=rxc) (q:=[Rx.mk op mn mx rs ks]) rfl rfl (Rx.mk op' mn' mx' rs' ks') (by rw[z4h];rfl) rfl rfl rfl (zaq _) rfl rfl (by decide) (by simp) ?_)|(apply z06;first|refine zl5 hr2 (z3y _ (e0,X) _) (bkT (by repeat (first|exact hT|refine HT.upd ?_ hX0 hX1))) ?_| refine z3x hn3 (z1q (m:=(e0+1,X)) (z3y _ (e0,X) _) (bkT (by repeat (first|exact hT|refine HT.upd ?_ hX0 hX1)))) ?_)|refine z04 ?_|refine fk (fun _=>?_) fun _=>?_
 all_goals try omega
 refine z1d 40 1000 ?_
 refine z00 (tm':=[(0,.ptr (e0+1,X) 0),(2,.ptr (0,2) 0),(4,.ref (0,1000)),(5,I .i32 d)]) (hp':=[(1000,.row 51 5 ([Rx.mk op mn mx rs ks,Rx.mk op' mn' mx' rs' ks'].map rxc)),bxZ]) ?_ rfl rfl
 refine z0o 1000 rfl ?_
 refine z5d ?_
 repeat' first|refine z04 ?_|refine fk (fun _=>?_) fun _=>?_
 all_goals try omega
 all_goals ((repeat rw[z1v]);first|exact z03 func128 _ (z0h rfl rfl rfl rfl rfl rfl rfl) ⟨rfl,rfl⟩|exact z03 func128 _ z1z ⟨rfl,rfl⟩|exact z03 func128 _ z1h ⟨rfl,rfl⟩|exact z03 func128 _ z7k ⟨rfl,rfl⟩)
theorem y97(i j:Nat)(x:Rx)(hx3:x.op≠3)(h:RdC 128 X τ s i j x)(hj:j≤s.size)(h1:nx (rst s j)=-1):RdC 87 X τ s i j x:=by
 intro e0
 refine z0v fun H hH=>?_
 have hX:H e0 X=some (pbx s i 0 0):=hH ((e0,X),pbx s i 0 0) (by simp)
 have hT:HT τ (e0+1) H:=HT.of (bs:=[((e0,X),pbx s i 0 0)]) hH
 have hr:=h (e0+1)
 have hn:=z8s (X:=X) τ s j hj 0 0 (e0+1)
 rw[h1]at hn
 refine z05 func87 (by kernel_rfl) rfl (by simp) ?_
 dsimp only[f87]
 obtain⟨op,mn,mx,rs,ks⟩:=x
 replace hx3:op≠3:=hx3
 rw[zmo]at hr⊢
 repeat' first|refine z04 ?_|fail
 all_goals try omega
 refine z1j 4 1000 51 5 rfl rfl rfl ?_
 refine z0f ?_
 refine z5d ?_
 repeat' first|(apply z01;refine z07 (z1u (u:=rx5 op mn mx rs ks) rfl (by omega) rfl rfl) rfl rfl ?_)|(apply z14;refine z4x (g:=rxc) (q:=[]) rfl rfl (Rx.mk op mn mx rs ks) (by rw[z4h];rfl) rfl rfl rfl (zaq _) rfl rfl (by decide) (by decide) ?_)|(apply z06;first|(refine z3x hn (z1q (m:=(e0+1,X)) (z3y _ (e0,X) _) (bkT (by repeat (first|exact hT|refine HT.upd ?_ hX0 hX1)))) ?_;refine zgz 25 rfl ?_;rw[List.nil_append,List.map_cons,List.map_nil,z4h])|refine zl5 hr hX (bkT (by repeat (first|exact hT|refine HT.upd ?_ hX0 hX1))) ?_)|refine z04 ?_|refine fk (fun _=>?_) fun _=>?_
 all_goals try omega
 all_goals ((repeat rw[z1v]);first|exact z03 func87 _ (z0h rfl rfl rfl rfl rfl rfl rfl) ⟨rfl,rfl⟩|exact z03 func87 _ z1z ⟨rfl,rfl⟩|exact z03 func87 _ z1h ⟨rfl,rfl⟩|exact z03 func87 _ z7k ⟨rfl,rfl⟩)
end
theorem zxy{P:Program}{f:FuncId}{R:z2y}{k:List Item}{all:Array Oper}{l:List Oper}{n:Nat}{tm:List (Nat × PV)}{hp:Hp}{up:Hf}{d:Nat}{ty:TypeId}{pos:String}{aft:Array Edge}{gd:Option (Nat × Bool)}{p:PV}{g:FuncId}{args:List Operand}{ps:List PV}{ats:Array TypeId}{ms:Nat}{b b':Blk}{bs:List (Nm × Blk)}
 (hsp:z0u P g ps (((0,ms),b)::bs) [((0,ms),b')] p) (hev:St.evs ⟨n,tm,hp,up⟩ args=some ps) (hb:Ab.look hp ms=some b) (hbs:BkE ⟨n,tm,hp,up⟩ bs) (hd:d<n)
 (h:Ops P f R all l k ⟨n,(d,p)::tm,(ms,b')::hp,up⟩):Op1 P f R all ⟨some d,.call ⟨.value (.func g),args.toArray,ats⟩,ty,pos,aft,gd⟩ l k ⟨n,tm,hp,up⟩ :=
 zju hsp hev (z1q (m:=(0,ms)) hb hbs) hd rfl h
theorem zo6(τ:Tab)(s:ByteArray)(hs:s.size≤200)(x:Rx)(hf:fit x)(hx:val x=0)(hu:RdC 87 10 τ s 0 s.size x)(hok:∀u∈unF 0 (rst s 0),¬(u.1=65533∧u.2.2=1))(hsz:(unF 0 (rst s 0)).length≤s.size):z0u prog 47 [S s] (zr3 τ 0) [] (.tup [.d (eX x),I .i64 0,I .i64 0]):=by
 refine z0v fun H hH=>?_
 have hT:HT τ 0 H:=HT.of (bs:=[]) hH
 have hv:=z8l x hf
 rw[hx]at hv
 have hu:=hu 0
 clear hx hf
 obtain⟨op,mn,mx,rs,ks⟩:=x
 rw[show Drx (.mk op mn mx rs ks)=.agg (rx5 op mn mx rs ks)from zmo _ _ _ _ _]at hv
 rw[zmo]at hu⊢
 have hsA:s.size≤1000000:=by omega
 refine z05 func47 (by kernel_rfl) rfl (by simp) ?_
 dsimp only[f47]
 repeat' first|refine z04 ?_|refine fk (fun _=>?_) fun _=>?_
 all_goals try omega
 obtain⟨L,hL⟩:∃L,unF 0 (rst s 0)=L:=⟨_,rfl⟩
 rw[hL]at hok hsz
 refine z0f ?_
 refine z00 (z0s (fun q:Nat=>⟨66,[(0,S s),(2,.ptr (0,2) 0),(5,I .i64 (q:Nat))],[(2,.box (z7v [Value.int .i64 0,Value.int .i64 0,Value.int .i64 0,z2n,z2n]))],H⟩)
  (fun q=>q≤L.length) (fun q=>L.length-q) ?_ 0 (zAf _)) rfl rfl
 intro q i1 ih
 have hat:=ydv s hsA q (by omega)
 rw[atR,hL]at hat
 by_cases hlt:q<L.length
 ·obtain⟨u,hu⟩:∃u,L[q]? =some u:=⟨_,zA0 hlt⟩
  rw[hu]at hat
  simp only at hat
  have hnb:=hok u (zA2 hu)
  repeat' first|(apply z06;refine z1o hat ?_)|refine z04 ?_|refine fk (fun _=>?_) fun _=>?_
  all_goals try omega
  all_goals exact z00 (ih (q+1) (by omega) (by omega)) rfl rfl
 ·obtain rfl:q=L.length:=by omega
  rw[zAv (zAj _)]at hat
  simp only at hat
  clear ih
  repeat' first|(apply z06;first|refine zxy hu rfl rfl (bkT hT) (by decide) ?_|refine z1o hat ?_| refine z1o hv ?_)|refine z04 ?_|refine fk (fun _=>?_) fun _=>?_
  all_goals try omega
  all_goals exact z03 func47 _ (z3u rfl rfl rfl rfl rfl rfl rfl rfl) ⟨rfl,rfl⟩
end Go.Proofs.YtmcggompdmngmaaGreatDoor
