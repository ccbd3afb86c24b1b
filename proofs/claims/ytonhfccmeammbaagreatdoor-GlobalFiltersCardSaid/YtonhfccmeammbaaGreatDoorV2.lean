/- A part. -/
import Derived.Test.YtonhfccmeammbaaGreatDoorVv
import Derived.Test.YtonhfccmeammbaaGreatDoorVs
import Derived.Test.YtonhfccmeammbaaGreatDoorVz
import Derived.Test.YtonhfccmeammbaaGreatDoorVK
set_option linter.all false
open Go.Proofs.Tryz
namespace Go.Proofs.YtonhfccmeammbaaGreatDoor
open Go.Ab Go.Rx
set_option maxHeartbeats 20000000
set_option maxRecDepth 100000
attribute [local irreducible] Run Ops Op1 z1z Val Tr z0q z1v NF Rel z5c z5d zal
theorem zw5(sp:List Int):(spB sp).size=sp.length:=by simp[spB,ByteArray.size]
theorem y1m{sp:List Int}(h:Sp sp){q:Nat}{c:Int}(hq:sp[q]? =some c):Utf8.decode (spB sp) q=(c.toNat,1):=by
 obtain⟨hl,_⟩:=zA1.1 hq
 have hlt:q<(spB sp).size:=by rw[zw5];exact hl
 have hr:=h.rng c (zA2 hq)
 have hb:(spB sp)[q]'hlt=UInt8.ofNat c.toNat:=by
  have:(spB sp)[q]? =some (UInt8.ofNat c.toNat):=by
   show(spB sp).data[q]? =_
   rw[spB]
   simp[hq]
  rw[getElem?_pos _ q hlt]at this
  exact Option.some.inj this
 have hn:((spB sp)[q]'hlt).toNat=c.toNat:=by rw[hb];simp;omega
 rw[decode_ascii (spB sp) q hlt (by rw[hn];omega),hn]
theorem y6y{sp:List Int}(hsp:Sp sp)(c:Int):z0q prog 204 [S (spB sp),I .i32 c] (B (sp.contains c)):=by
 refine z0y fun H=>?_
 have hsl:=zw5 sp
 have hsz:=hsp.size
 refine z0g func204 (by kernel_rfl) rfl (by simp) ?_
 dsimp only[f204]
 repeat' first|(apply z05;first|refine z0n ?_| refine zaj rfl rfl rfl (by decide) ?_)|(apply z06;first|refine z0m ?_|apply z09)|(apply z07;first|apply z08|apply z00|apply z01)
 all_goals try omega
 refine z0r ?_
 refine z0d (z1o (fun q:Nat=>⟨15,[(1,I .i32 c),(8,.ptr (0,8) 0)],[(8,.siter (spB sp) q)],H⟩) (fun q=>q≤(spB sp).size∧(sp.drop q).contains c=sp.contains c) (fun q=>(spB sp).size-q) ?_ 0 ⟨zAf _,rfl⟩) rfl rfl
 rintro q ⟨i1,i2⟩ ih
 by_cases hlt:q<(spB sp).size
 ·obtain⟨x,hx⟩:∃x,sp[q]? =some x:=⟨_,zA0 (by omega)⟩
  have hd:=y1m hsp hx
  have hr:=hsp.rng x (zA2 hx)
  rw[drop_cons hx,List.contains_cons]at i2
  have h1:((Utf8.decode (spB sp) q).1:Int)=x:=by rw[hd];simp only;omega
  have h2:(Utf8.decode (spB sp) q).2=1:=by rw[hd]
  by_cases hc:x=c
  ·rw[show(c == x)=true by simp[hc],Bool.true_or]at i2
   rw[←i2]
   repeat' first|(apply z05;first|refine z0n ?_| refine z3e hlt rfl rfl (by decide) ?_)|(apply z06;first|refine z0m ?_|apply z09)|(apply z07;first|apply z08|apply z00|refine z1j ?_| apply z04|apply z01|apply z03|refine z0h (fun _=>?_) fun _=>?_)
   all_goals try omega
   all_goals exact z0e func204 _ z0p ⟨rfl,rfl⟩
  ·rw[show(c == x)=false by simp;omega,Bool.false_or]at i2
   have ih':=ih (q+(Utf8.decode (spB sp) q).2) ⟨by omega,by rw[h2];exact i2⟩ (by omega)
   repeat' first|(apply z05;first|refine z0n ?_| refine z3e hlt rfl rfl (by decide) ?_)|(apply z06;first|refine z0m ?_|apply z09)|(apply z07;first|apply z08|apply z00|refine z1j ?_| apply z04|apply z01|apply z03|refine z0h (fun _=>?_) fun _=>?_)
   all_goals exact zD23
 ·rw[List.drop_eq_nil_of_le (by omega)]at i2
  rw[←i2]
  repeat' first|(apply z05;first|refine z0n ?_| refine z3f hlt rfl rfl (by decide) ?_)|(apply z06;first|refine z0m ?_|apply z09)|(apply z07;first|apply z08|apply z00|refine z15 ?_| refine z0o ?_)
  all_goals try omega
  all_goals exact z0e func204 _ z0p ⟨rfl,rfl⟩
abbrev rbx(s:ByteArray)(qs:List Uq)(i a e:Int)(o:Bool):Blk:=.box [S s,.d (.slice (qs.map uqc)),I .i64 i,I .i64 a,I .i64 e,B o]
section
variable{X:Nat}{s:ByteArray}{qs:List Uq}(hfw:qs.length≤1000)
abbrev RdR(F:FuncId)(X:Nat)(s:ByteArray)(qs:List Uq)(i j:Nat)(x:Rx):Prop:=∀e0,z1v prog F [.ptr (e0,X) 0] [((e0,X),rbx s qs i 0 0 false)] [((e0,X),rbx s qs j 0 0 false)] (.d (eX x))
def nxq(qs:List Uq)(i:Nat):Int:=match qs[i]? with
 | some q=>q.1
 | none=> -1
include hfw
theorem zhm(i:Nat)(hi:i≤qs.length)(e0:Nat):z1v prog 132 [.ptr (e0,X) 0] [((e0,X),rbx s qs i 0 0 false)] [] (I .i32 (nxq qs i)):=by
 refine z2a fun H hH=>?_
 have hX:H e0 X=some (rbx s qs i 0 0 false):=hH ((e0,X),rbx s qs i 0 0 false) (by simp)
 refine z0g func132 (by kernel_rfl) rfl (by simp) ?_
 dsimp only[f132]
 unfold nxq
 by_cases hlt:i<qs.length
 ·obtain⟨u,hus⟩:∃u,qs[i]? =some u:=⟨_,zA0 hlt⟩
  rw[hus]
  repeat' first|(apply z05;refine z0n ?_)|(apply z06;first|refine z0m ?_|apply z09)|(apply z07;first|apply z08|apply z00|apply z04|apply z2o|refine z0h (fun _=>?_) fun _=>?_)|(apply z2m;first|(apply z1e;refine z2c mix ?_)|refine z2w ?_| (apply z0v;first|refine zrz (by first|exact rfl|exact⟨_,rfl,rfl,rfl⟩) rfl hX rfl rfl rfl rfl (by decide) ?_|refine z0x z2f rfl rfl ?_)|(apply z0u;first|refine z0x z0i rfl rfl ?_| refine z0x (z5o rfl rfl) rfl rfl ?_)|(apply z1i;refine z0x (z1a (ys:=qs.map uqc) rfl (idx hus)) rfl rfl ?_)|(apply z3v;refine z0x (z0w rfl) rfl rfl ?_))
  all_goals try omega
  all_goals exact z0e func132 _ z0p ⟨rfl,rfl⟩
 ·rw[zAv (by omega)]
  repeat' first|(apply z05;refine z0n ?_)|(apply z06;first|refine z0m ?_|apply z09)|(apply z07;first|apply z08|apply z00|apply z04|apply z2o|refine z0h (fun _=>?_) fun _=>?_)|(apply z2m;first|(apply z1e;refine z2c mix ?_)|refine z2w ?_| (apply z0v;refine zrz (by first|exact rfl|exact⟨_,rfl,rfl,rfl⟩) rfl hX rfl rfl rfl rfl (by decide) ?_)|(apply z0u;refine z0x z0i rfl rfl ?_)|(apply z3v;refine z0x (z0w rfl) rfl rfl ?_))
  all_goals try omega
  all_goals exact z0e func132 _ z0p ⟨rfl,rfl⟩
theorem y61(i:Nat)(c:Int)(hi:i<qs.length)(hx:nxq qs i=c)(hc:97≤c∧c≤99)(e0:Nat) :
 z1v prog 191 [.ptr (e0,X) 0,S (spB spA)] [((e0,X),rbx s qs i 0 0 false)] [((e0,X),rbx s qs ((i+1:Nat):Int) 0 0 false)] (I .i32 c):=by
 refine z2a fun H hH=>?_
 have hX:H e0 X=some (rbx s qs i 0 0 false):=hH ((e0,X),rbx s qs i 0 0 false) (by simp)
 have hn:=zhm (X:=X) (s:=s) hfw i (by omega) (e0+1)
 rw[hx]at hn
 have hcr:=y6y y6l c
 rw[show spA.contains c=false from by rcases(show c=97∨c=98∨c=99 by omega)with rfl|rfl|rfl <;> rfl]at hcr
 refine z0g func191 (by kernel_rfl) rfl (by simp) ?_
 dsimp only[f191]
 repeat' first|(apply z05;first|refine z0n ?_| (apply z0a;refine z5j rfl hX rfl rfl rfl rfl (by decide) ?_)|(apply z0c;refine z02 z0i rfl rfl ?_)|(apply z0t;refine z02 (z0z z1h) rfl rfl ?_)|(apply z0j;first|refine z4u hn rfl (bk1 (m:=(e0+1,X)) hX) (by decide) ?_|refine z29 hcr ?_)|(apply z0f;refine z5k (raw':=rbx s qs ((i+1:Nat):Int) 0 0 false) rfl hX rfl rfl rfl rfl rfl rfl ?_))|(apply z06;first|refine z0m ?_|apply z09|refine z1g ?_| refine z1p (fun _=>?_) fun _=>?_)|(apply z07;first|apply z08|apply z00|refine z1j ?_| refine z15 ?_| apply z04|refine z0h (fun _=>?_) fun _=>?_)
 all_goals try omega
 all_goals ((repeat rw[z3l]);first|exact z0e func191 _ (z11 rfl rfl rfl rfl rfl rfl rfl) ⟨rfl,rfl⟩|exact z0e func191 _ z2s ⟨rfl,rfl⟩|exact z0e func191 _ z0p ⟨rfl,rfl⟩|exact z0e func191 _ (z4i rfl rfl rfl rfl) ⟨rfl,rfl⟩)
theorem zoq(i:Nat)(c:Int)(hi:i<qs.length)(hx:nxq qs i=c)(hc:97≤c∧c≤99):RdR 174 X s qs i (i+1) (Rx.one c c):=by
 intro e0
 refine z2a fun H hH=>?_
 have hX:H e0 X=some (rbx s qs i 0 0 false):=hH ((e0,X),rbx s qs i 0 0 false) (by simp)
 have hn:=zhm (X:=X) (s:=s) hfw i (by omega) (e0+1)
 rw[hx]at hn
 have hch:=y61 (X:=X) (s:=s) hfw i c hi hx hc (e0+1)
 rw[zqh]
 refine z0g func174 (by kernel_rfl) rfl (by simp) ?_
 dsimp only[f174]
 repeat' first|(apply z05;first|refine z0n ?_| (apply z0a;refine z5j rfl hX rfl rfl rfl rfl (by decide) ?_)|(apply z0c;refine z02 z0i rfl rfl ?_)|(apply z0t;refine z02 (z0z z1h) rfl rfl ?_)|(apply z0j;first|refine z5r hch rfl hX z8m (by decide) ?_|refine z4u hn rfl (bk1 (m:=(e0+1,X)) hX) (by decide) ?_)|(apply z0f;refine z25 ?_)|(apply z0l;refine z0b z2e ?_)|(apply z1n;refine z2y ?_)|(apply z3c;refine z3b (ys:=[(c,c)].map rgc) rfl ?_))|(apply z06;first|refine z0m ?_|apply z09)|(apply z07;first|apply z08|apply z00|apply z04|apply z01|apply z03|refine z0h (fun _=>?_) fun _=>?_)
 all_goals exact zD97
theorem y3f(i:Nat)(hi:i<qs.length)(hx:nxq qs i=46):RdR 174 X s qs i (i+1) (.mk 1 0 0 [(0,1114111)] []):=by
 intro e0
 refine z2a fun H hH=>?_
 have hX:H e0 X=some (rbx s qs i 0 0 false):=hH ((e0,X),rbx s qs i 0 0 false) (by simp)
 have hn:=zhm (X:=X) (s:=s) hfw i (by omega) (e0+1)
 rw[hx]at hn
 rw[z7u]
 refine z0g func174 (by kernel_rfl) rfl (by simp) ?_
 dsimp only[f174]
 repeat' first|(apply z05;first|refine z0n ?_| (apply z0a;refine z5j rfl hX rfl rfl rfl rfl (by decide) ?_)|(apply z0c;refine z02 z0i rfl rfl ?_)|(apply z0t;refine z02 (z0z z1h) rfl rfl ?_)|(apply z0j;refine z4u hn rfl (bk1 (m:=(e0+1,X)) hX) (by decide) ?_)|(apply z0f;first|refine z5k (raw':=rbx s qs ((i+1:Nat):Int) 0 0 false) rfl hX rfl rfl rfl rfl rfl rfl ?_|refine z25 ?_)|(apply z0l;refine z0b z2e ?_)|(apply z1n;refine z2y ?_)|(apply z3c;refine z3b (ys:=[((0:Int),(1114111:Int))].map rgc) rfl ?_))|(apply z06;first|refine z0m ?_|apply z09)|(apply z07;first|apply z08|apply z00|refine z1j ?_| refine z15 ?_| apply z01)
 all_goals exact zD97
theorem zlp(i j:Nat)(x:Rx)(h:RdR 174 X s qs i j x)(hj:j≤qs.length)(d:Int)(hd:nxq qs j=d)(hdd:d≠42∧d≠43∧d≠63∧d≠123):RdR 158 X s qs i j x:=by
 intro e0
 refine z2a fun H hH=>?_
 have hX:H e0 X=some (rbx s qs i 0 0 false):=hH ((e0,X),rbx s qs i 0 0 false) (by simp)
 have ha:=h (e0+1)
 have hn:=zhm (X:=X) (s:=s) hfw j hj (e0+1)
 rw[hd]at hn
 obtain⟨op,mn,mx,rs,ks⟩:=x
 rw[z7u]at ha⊢
 refine z0g func158 (by kernel_rfl) rfl (by simp) ?_
 dsimp only[f158]
 repeat' first|(apply z05;first|refine z0n ?_| (apply z0j;refine z5r ha rfl hX z8m (by decide) ?_)|(apply z0f;refine z25 ?_)|(apply z0l;refine z0b z2e ?_))|(apply z06;first|refine z0m ?_|apply z09)|(apply z07;first|apply z08|apply z00|apply z01)
 all_goals try omega
 refine z0r ?_
 refine z1u ?_
 repeat' first|(apply z05;first|refine z0n ?_| (apply z0a;first|refine z5j rfl (z3w _ (e0,X) _) rfl rfl rfl rfl (by decide) ?_|refine z02 z1y rfl rfl ?_)|(apply z0c;refine z02 z0i rfl rfl ?_)|(apply z0t;refine z02 (z0z z1h) rfl rfl ?_)|(apply z0j;refine z4u hn rfl (bk1 (m:=(e0+1,X)) (z3w _ (e0,X) _)) (by decide) ?_)|(apply z0f;refine z25 ?_)|(apply z0l;refine z0b z2e ?_)|(apply z1n;refine z2y ?_))|(apply z06;first|refine z0m ?_|apply z09)|(apply z07;first|apply z08|apply z00|refine z1j ?_| apply z04|apply z01|refine z0h (fun _=>?_) fun _=>?_)
 all_goals try omega
 all_goals first
  | ((repeat rw[z3l]);exact z0e func158 _ (z1x rfl rfl rfl rfl rfl rfl) ⟨rfl,rfl⟩)
end
abbrev bxR:Nat × Blk:=(2,.box (z5q [Value.int .i64 0,Value.int .i64 0,Value.int .i64 0,z1t,z1t]))
section
variable{X:Nat}{s:ByteArray}{qs:List Uq}(hfw:qs.length≤1000)
include hfw
theorem zmh(i j:Nat)(x:Rx)(hx2:x.op≠2)(h:RdR 158 X s qs i j x)(hi:i≤qs.length)(hj:j≤qs.length)(a d:Int)(h0:nxq qs i=a)(ha0:0≤a∧a≠124∧a≠41)(h1:nxq qs j=d)(hd:d=-1∨d=124):RdR 131 X s qs i j x:=by
 intro e0
 refine z2a fun H hH=>?_
 have hX:H e0 X=some (rbx s qs i 0 0 false):=hH ((e0,X),rbx s qs i 0 0 false) (by simp)
 have hr:=h (e0+1)
 have hn1:=zhm (X:=X) (s:=s) hfw i hi (e0+1)
 have hn2:=zhm (X:=X) (s:=s) hfw j hj (e0+1)
 rw[h0]at hn1
 rw[h1]at hn2
 obtain⟨op,mn,mx,rs,ks⟩:=x
 replace hx2:op≠2:=hx2
 rw[z7u]at hr⊢
 refine z0g func131 (by kernel_rfl) rfl (by simp) ?_
 dsimp only[f131]
 repeat' first|(apply z05;first|refine z0n ?_| (apply z0j;refine z4u hn1 rfl (bk1 (m:=(e0+1,X)) hX) (by decide) ?_)|(apply z0l;refine z0b z2e ?_))|(apply z06;first|refine z0m ?_|apply z09)|(apply z07;first|apply z08|apply z00|apply z01)
 all_goals try omega
 refine z6n 3 1000 113 5 rfl rfl rfl ?_
 refine z0r ?_
 refine z1u ?_
 repeat' first|(apply z05;first|refine z0n ?_| (apply z0s;first|refine z7l (g:=rxc) (q:=[]) rfl rfl (Rx.mk op mn mx rs ks) (by rw[z3i];rfl) rfl rfl rfl (z8k _) rfl rfl (by decide) (by decide) ?_|refine z02 (z6g rfl) rfl rfl ?_)|(apply z0j;first|refine z5r hr rfl hX z8m (by decide) ?_|refine z4u hn2 rfl (bk1 (m:=(e0+1,X)) (z3w _ (e0,X) _)) (by decide) ?_)|(apply z0f;refine z25 ?_)|(apply z0l;refine z0b z2e ?_)|(apply z1n;refine z2y ?_)|(apply z3c;refine z3b rfl ?_))|(apply z06;first|refine z0m ?_|apply z09|refine z1g ?_| refine z1p (fun _=>?_) (fun _=>?_)| refine z39 rfl rfl (fun _=>?_) fun _=>?_)|(apply z07;first|apply z08|apply z00|refine z15 ?_| apply z04|apply z01|apply z03|refine z38 rfl (fun _=>?_) (fun _=>?_)|refine z0o ?_)
 all_goals try omega
 refine z4n 26 1000 rfl rfl ?_
 refine z0d (tm':=[(0,.ptr (e0+1,X) 0),(2,.ptr (0,2) 0),(3,.ref (0,1000)),(4,I .i32 d)]) (hp':=[(1000,.row 113 5 ([Rx.mk op mn mx rs ks].map rxc)),bxR]) ?_ rfl rfl
 rw[List.map_cons,List.map_nil,z3i]
 refine z1f 1000 rfl ?_
 refine z1u ?_
 repeat' first|(apply z05;first|refine z0n ?_| (apply z0a;refine z02 z1w rfl rfl ?_)|(apply z0k;refine z02 (z5h (u:=rx5 op mn mx rs ks) rfl) rfl rfl ?_)|(apply z0s;refine z02 (z4a rfl) rfl rfl ?_)|(apply z0f;refine z25 ?_))|(apply z06;first|refine z0m ?_|apply z09|refine z1g ?_| refine z1p (fun _=>?_) (fun _=>?_)| refine z39 rfl rfl (fun _=>?_) fun _=>?_)|(apply z07;first|apply z08|apply z00|refine z1j ?_| refine z15 ?_| apply z04|apply z01|refine z38 rfl (fun _=>?_) (fun _=>?_)|refine z0o ?_)
 all_goals try (exfalso;first|omega|(simp at *;done))
 all_goals first
  | ((repeat rw[z3l]);exact z0e func131 _ (z1x rfl rfl rfl rfl rfl rfl) ⟨rfl,rfl⟩)
theorem zw1(i j:Nat)(x:Rx)(hx3:x.op≠3)(h:RdR 131 X s qs i j x)(hj:j≤qs.length)(h1:nxq qs j=-1):RdR 105 X s qs i j x:=by
 intro e0
 refine z2a fun H hH=>?_
 have hX:H e0 X=some (rbx s qs i 0 0 false):=hH ((e0,X),rbx s qs i 0 0 false) (by simp)
 have hr:=h (e0+1)
 have hn:=zhm (X:=X) (s:=s) hfw j hj (e0+1)
 rw[h1]at hn
 obtain⟨op,mn,mx,rs,ks⟩:=x
 rw[z7u]at hr⊢
 have hlen:([rx5 op mn mx rs ks]:List (List D)).length=1:=rfl
 refine z0g func105 (by kernel_rfl) rfl (by simp) ?_
 dsimp only[f105]
 repeat' first|(apply z05;first|refine z0n ?_| (apply z0j;refine z5r hr rfl hX z8m (by decide) ?_)|(apply z0l;refine z0b z2e ?_)|(apply z3c;refine z3b (ys:=[rx5 op mn mx rs ks]) rfl ?_))|(apply z06;first|refine z0m ?_|apply z09)|(apply z07;first|apply z08|apply z00|apply z01)
 refine z0r ?_
 refine z1u ?_
 repeat' first|(apply z05;first|refine z0n ?_| (apply z0a;refine z02 z1w rfl rfl ?_)|(apply z0k;refine z02 (z5h (u:=rx5 op mn mx rs ks) rfl) rfl rfl ?_)|(apply z0s;refine z02 (z4a rfl) rfl rfl ?_)|(apply z0j;refine z4u hn rfl (bk1 (m:=(e0+1,X)) (z3w _ (e0,X) _)) (by decide) ?_)|(apply z0f;refine z25 ?_))|(apply z06;first|refine z0m ?_|apply z09)|(apply z07;first|apply z08|apply z00|refine z1j ?_| refine z15 ?_| refine z0o ?_)
 all_goals exact zD86
theorem y1c(i j k:Nat)(x y:Rx)(hx3:x.op≠3)(hy3:y.op≠3)(h:RdR 131 X s qs i j x)(h':RdR 131 X s qs (j+1) k y)(hj:j<qs.length)(hk:k≤qs.length)(h1:nxq qs j=124)(h2:nxq qs k=-1):RdR 105 X s qs i k (.mk 3 0 0 [] [x,y]):=by
 intro e0
 refine z2a fun H hH=>?_
 have hX:H e0 X=some (rbx s qs i 0 0 false):=hH ((e0,X),rbx s qs i 0 0 false) (by simp)
 have hr1:=h (e0+1)
 have hr2:=h' (e0+1)
 have hn1:=zhm (X:=X) (s:=s) hfw j (by omega) (e0+1)
 have hn2:=zhm (X:=X) (s:=s) hfw k hk (e0+1)
 rw[h1]at hn1
 rw[h2]at hn2
 obtain⟨op,mn,mx,rs,ks⟩:=x
 replace hx3:op≠3:=hx3
 obtain⟨op',mn',mx',rs',ks'⟩:=y
 replace hy3:op'≠3:=hy3
 rw[z7u]at hr1 hr2⊢
 refine z0g func105 (by kernel_rfl) rfl (by simp) ?_
 dsimp only[f105]
 repeat' first|(apply z05;first|refine z0n ?_| (apply z0j;refine z5r hr1 rfl hX z8m (by decide) ?_)|(apply z0l;refine z0b z2e ?_)|(apply z3c;refine zi0 (ys:=[rx5 op mn mx rs ks]) rfl rfl rfl rfl rfl rfl rfl rfl rfl (by decide) ?_))|(apply z06;first|refine z0m ?_|apply z09)|(apply z07;first|apply z08|apply z00|apply z01)
 rw[show [rx5 op mn mx rs ks]=[Rx.mk op mn mx rs ks].map rxc from by rw[List.map_cons,List.map_nil,z3i]]
 refine z0r ?_
 refine z1u ?_
 repeat' first|(apply z05;first|refine z0n ?_| (apply z0a;refine z5j rfl (z3w _ (e0,X) _) rfl rfl rfl rfl (by decide) ?_)|(apply z0c;refine z02 z0i rfl rfl ?_)|(apply z0t;refine z02 (z0z z1h) rfl rfl ?_)|(apply z0s;refine z7l (g:=rxc) (q:=[Rx.mk op mn mx rs ks]) rfl rfl (Rx.mk op' mn' mx' rs' ks') (by rw[z3i];rfl) rfl rfl rfl (z8k _) rfl rfl (by decide) (by simp) ?_)|(apply z0j;first|refine z5r hr2 rfl (z3w _ (e0,X) _) z8m (by decide) ?_|refine z4u hn1 rfl (bk1 (m:=(e0+1,X)) (z3w _ (e0,X) _)) (by decide) ?_)|(apply z0f;refine z5k (raw':=rbx s qs ((j+1:Nat):Int) 0 0 false) rfl (z3w _ (e0,X) _) rfl rfl rfl rfl rfl rfl ?_)|(apply z3c;refine z3b rfl ?_))|(apply z06;first|refine z0m ?_|apply z09)|(apply z07;first|apply z08|apply z00|refine z1j ?_| apply z04|apply z01|apply z03)
 all_goals try (exfalso;first|omega|(simp at *;done))
 refine z1f 24 rfl ?_
 refine z0d (tm':=[(0,.ptr (e0+1,X) 0),(2,.ptr (0,2) 0),(3,.d (.slice ([Rx.mk op mn mx rs ks,Rx.mk op' mn' mx' rs' ks'].map rxc)))]) (hp':=[bxR]) ?_ rfl rfl
 rw[List.map_cons,List.map_cons,List.map_nil,z3i,z3i]
 have hlen:([rx5 op mn mx rs ks,rx5 op' mn' mx' rs' ks']:List (List D)).length=2:=rfl
 refine z1u ?_
 repeat' first|(apply z05;first|refine z0n ?_| (apply z0s;refine z02 (z4a rfl) rfl rfl ?_)|(apply z0j;refine z4u hn2 rfl (bk1 (m:=(e0+1,X)) (z3w _ (e0,X) _)) (by decide) ?_)|(apply z0f;refine z25 ?_)|(apply z0l;refine z0b z2e ?_)|(apply z1n;refine z2y ?_))|(apply z06;first|refine z0m ?_|apply z09)|(apply z07;first|apply z08|apply z00|refine z15 ?_| apply z04|apply z01|refine z0o ?_)
 all_goals try (exfalso;first|omega|(simp at *;done))
 refine z4q 4 4 1001 113 5 rfl rfl rfl rfl ?_
 refine z0r ?_
 refine z1u ?_
 repeat' first|(apply z05;first|refine z0n ?_| (apply z0a;first|refine z02 z16 rfl rfl ?_| refine z02 z1w rfl rfl ?_| refine z02 z1y rfl rfl ?_)|(apply z0c;refine z02 z0i rfl rfl ?_)|(apply z0k;refine z02 (z5h (u:=rx5 op mn mx rs ks) rfl) rfl rfl ?_)|(apply z0t;refine z02 (z0z z1h) rfl rfl ?_)|(apply z0s;refine z7l (g:=rxc) (q:=[]) rfl rfl (Rx.mk op mn mx rs ks) (by rw[z3i];rfl) rfl rfl rfl (z8k _) rfl rfl (by decide) (by decide) ?_)|(apply z0f;refine z25 ?_)|(apply z0l;refine z0b z2e ?_)|(apply z3c;refine z3b rfl ?_))|(apply z06;first|refine z0m ?_|apply z09)|(apply z07;first|apply z08|apply z00|refine z1j ?_| apply z04|apply z01|apply z03|refine z0h (fun _=>?_) fun _=>?_)
 all_goals try (exfalso;first|omega|(simp at *;done))
 refine z4n 51 1001 rfl rfl ?_
 refine z0d (tm':=[(2,.ptr (0,2) 0),(4,.ptr (0,4) 0),(32,.d (.slice [rx5 op mn mx rs ks,rx5 op' mn' mx' rs' ks'])),(33,I .i64 ([rx5 op mn mx rs ks,rx5 op' mn' mx' rs' ks']:List (List D)).length),(34,I .i64 (0+1))]) (hp':=[(1001,.row 113 5 ([Rx.mk op mn mx rs ks].map rxc)),(4,.box [I .i64 3,I .i64 0,I .i64 0,.d (.lit z1t),.ref (0,1001)]),bxR]) ?_ rfl rfl
 refine z1u ?_
 repeat' first|(apply z05;first|refine z0n ?_| (apply z0a;first|refine z02 z16 rfl rfl ?_| refine z02 z1w rfl rfl ?_| refine z02 z1y rfl rfl ?_)|(apply z0c;refine z02 z0i rfl rfl ?_)|(apply z0k;refine z02 (z5h (u:=rx5 op' mn' mx' rs' ks') rfl) rfl rfl ?_)|(apply z0t;refine z02 (z0z z1h) rfl rfl ?_)|(apply z0s;refine z7l (g:=rxc) (q:=[Rx.mk op mn mx rs ks]) rfl rfl (Rx.mk op' mn' mx' rs' ks') (by rw[z3i];rfl) rfl rfl rfl (z8k _) rfl rfl (by decide) (by simp) ?_)|(apply z0f;refine z25 ?_)|(apply z0l;refine z0b z2e ?_)|(apply z3c;refine z3b rfl ?_))|(apply z06;first|refine z0m ?_|apply z09)|(apply z07;first|apply z08|apply z00|refine z1j ?_| apply z04|apply z01|apply z03|refine z0h (fun _=>?_) fun _=>?_)
 all_goals try (exfalso;first|omega|(simp at *;done))
 refine z1f 51 rfl ?_
 refine z1u ?_
 repeat' first|(apply z05;first|refine z0n ?_| (apply z0a;refine z02 z1y rfl rfl ?_)|(apply z0f;refine z25 ?_))|(apply z06;first|refine z0m ?_|apply z09)|(apply z07;first|apply z08|apply z00|refine z15 ?_| refine z0o ?_)
 all_goals exact zD86
end
theorem zk0(s:ByteArray)(qs:List Uq)(hq:(uQ 0 (rst s 0)).map okf=qs)(hs:s.size≤200)(hfw:qs.length≤1000)(x:Rx)(hf:fit x)(hx:val x=0)(hu:RdR 105 17 s qs 0 qs.length x)(hok:∀q∈qs,q.2.2.2=true) :
 z0q prog 76 [S s] (.tup [.d (eX x),I .i64 0,I .i64 0]):=by
 have hun:=zs1 s (by omega)
 rw[hq]at hun
 have hv:=zeg x hf
 rw[hx]at hv
 have hu:=hu 0
 clear hx hf hq
 obtain⟨op,mn,mx,rs,ks⟩:=x
 rw[show Drx (.mk op mn mx rs ks)=.agg (rx5 op mn mx rs ks)from z7u _ _ _ _ _]at hv
 rw[z7u]at hu⊢
 refine z0y fun H=>?_
 refine z0g func76 (by kernel_rfl) rfl (by simp) ?_
 dsimp only[f76]
 repeat' first|(apply z05;first|refine z0n ?_| (apply z0a;refine z02 z16 rfl rfl ?_)|(apply z0c;refine z02 z0i rfl rfl ?_)|(apply z0s;first|refine z02 (z0w rfl) rfl rfl ?_| refine z02 (z63 rfl) rfl rfl ?_)|(apply z0j;refine z29 hun ?_)|(apply z0f;refine z25 ?_)|(apply z0l;refine z0b z2e ?_)|(apply z18;refine z0b z43 ?_)|(apply z1n;refine z2y ?_))|(apply z06;first|refine z0m ?_|apply z09)|(apply z07;first|apply z08|apply z00|apply z04|apply z01|refine z0h (fun _=>?_) fun _=>?_)
 all_goals try omega
 refine z0r ?_
 refine z0d (z1o (fun q:Nat=>⟨73,[(2,.ptr (0,2) 0),(5,.ptr (0,17) 0),(21,.d (.slice (qs.map uqc))),(22,I .i64 qs.length),(23,I .i64 (q:Nat))],[(17,rbx s qs (0:Nat) 0 0 false),bxR],H⟩)
  (fun q=>q≤qs.length) (fun q=>qs.length-q) ?_ 0 (zAf _)) rfl rfl
 intro q i1 ih
 by_cases hlt:q<qs.length
 ·obtain⟨u,hus⟩:∃u,qs[q]? =some u:=⟨_,zA0 hlt⟩
  have ho:=hok u (zA2 hus)
  obtain⟨u1,u2,u3,u4⟩:=u
  simp only at ho
  subst ho
  repeat' first|(apply z05;first|refine z0n ?_| (apply z0a;first|refine z02 z16 rfl rfl ?_| refine z02 z1w rfl rfl ?_)|(apply z0c;refine z02 z0i rfl rfl ?_)|(apply z0k;refine z02 (z1a (ys:=qs.map uqc) rfl (idx hus)) rfl rfl ?_)|(apply z0t;refine z02 (z0z z1h) rfl rfl ?_)|(apply z0f;refine z25 ?_)|(apply z0l;refine z0b z2e ?_))|(apply z06;first|refine z0m ?_|apply z09)|(apply z07;first|apply z08|apply z00|refine z15 ?_| apply z04|apply z01|apply z03|refine z0h (fun _=>?_) (fun _=>?_)| refine z0o ?_)
  all_goals try (exfalso;first|omega|contradiction)
  all_goals exact z0d (ih (q+1) (by omega) (by omega)) rfl rfl
 ·clear ih
  repeat' first|(apply z05;first|refine z0n ?_| (apply z0a;first|refine z02 z16 rfl rfl ?_| refine z02 z1y rfl rfl ?_)|(apply z0c;refine z02 z0i rfl rfl ?_)|(apply z0j;first|refine za1 hu rfl rfl (by decide) ?_|refine z29 hv ?_)|(apply z0f;refine z25 ?_)|(apply z0l;refine z0b z2e ?_))|(apply z06;first|refine z0m ?_|apply z09)|(apply z07;first|apply z08|apply z00|refine z15 ?_| apply z04|apply z01|apply z2o|refine z0h (fun _=>?_) (fun _=>?_)| refine z0o ?_)|(apply z2m;first|(apply z1e;refine z2c mix ?_)|refine z2w ?_| (apply z0v;refine z0x z16 rfl rfl ?_)|(apply z0u;refine z0x z0i rfl rfl ?_)|(apply z3v;refine z0x (z0w rfl) rfl rfl ?_))
  all_goals try (exfalso;first|omega|contradiction)
  all_goals first
   | exact z0e func76 _ (zce rfl rfl rfl rfl rfl rfl rfl rfl) ⟨rfl,rfl⟩
theorem zel{ok ok':Int→List (Int × Int)→Bool}{c:Int}(h:ok c=ok' c)(S:Nat):∀(lv:List (List (Int × Int))) (i acc:Nat),rdF ok c S i acc lv=rdF ok' c S i acc lv
 | [],i,acc=>rfl
 | l::r,i,acc=>by rw[rdF,rdF,h];exact zel h S r _ _
theorem zfz{ok ok':Int→List (Int × Int)→Bool}(t:Tb)(la:Nat):∀(w:List Int) (S:Nat),(∀c∈w,ok c=ok' c)→znu ok t la S w=znu ok' t la S w
 | [],S,h=>rfl
 | c::w,S,h=>by
  rw[znu,znu,zel (h c (by simp)),zfz t la w _ fun d hd=>h d (by simp[hd])]
theorem zto{ok ok':Int→List (Int × Int)→Bool}(e:Rx){w:List Int}(h:∀c∈w,ok c=ok' c):mt ok e w=mt ok' e w:=by
 rw[Rx.mt,Rx.mt]
 cases w with
 | nil=>rfl
 | cons c w=>rw[mtF,mtF,zel (h c (by simp)),zfz _ _ w _ fun d hd=>h d (by simp[hd])]
theorem zq8{a b:Int}(ha:Utf8.valid a=true)(hb:Utf8.valid b=true)(h:Utf8.encode a=Utf8.encode b):a=b:=by
 have h1:=zkl a
 rw[h,zkl b,List.cons.injEq,U.mk.injEq,zbw ha,zbw hb]at h1
 exact h1.1.1.symm
theorem zrh{c x:Int}(hc:Utf8.valid c=true)(hx:x=z65 c∨x=z65 c-32∨x=z65 c-80):(0≤x∧za4 (Utf8.encode x)=za4 (Utf8.encode c))↔z65 x=z65 c:=by
 have hl:=z8t hc
 have hlv:=z3r.1 hl
 rw[z7p hc]
 cases hv:Utf8.valid x with
 | true =>
  have h0:=z3r.1 hv
  rw[z7p hv]
  exact⟨fun⟨_,h⟩=>zq8 (z8t hv) hl h,fun h=>⟨by omega,by rw[h]⟩⟩
 | false =>
  have hn:¬((0≤x∧x<55296)∨(57344≤x∧x≤1114111)):=fun h=>by rw[z3r.2 h]at hv;cases hv
  constructor
  ·rintro⟨h0,h⟩
   rw[zli,show zhq x=65533 by rw[zhq,zAy (by simp[hv])]]at h
   have h1:=zq8 (by decide) hl h
   rw[show z65 ((65533:Nat):Int)=65533 by decide]at h1
   omega
  ·intro h
   rcases z81 x with e|⟨h1,h2,h3⟩|⟨h1,h2,h3,h4,h5⟩ <;> omega
theorem zyr{c:Int}(hc:Utf8.valid c=true):okV zgk c=rok true c:=by
 funext l
 have h0:=z3r.1 hc
 have hm:∀x,x∈zgk c↔(x=z65 c∨x=z65 c-32∨x=z65 c-80)∧z65 x=z65 c:=fun x=>by
  rw[zgk,List.mem_filter]
  simp only[zAc,List.not_mem_nil,or_false,zA7,zA3]
  exact⟨fun⟨h1,h2⟩=>⟨h1,(zrh hc h1).1 h2⟩,fun⟨h1,h2⟩=>⟨h1,(zrh hc h1).2 h2⟩⟩
 rw[Bool.eq_iff_iff,okV,rok,List.any_eq_true,List.any_eq_true]
 constructor
 ·rintro⟨x,hx,hr⟩
  rw[inR,List.any_eq_true]at hr
  obtain⟨r,hr1,hr2⟩:=hr
  obtain⟨h1,h2⟩:=(hm x).1 hx
  rw[zA7,zA3,zA3]at hr2
  refine⟨r,hr1,?_⟩
  rw[zAu,Bool.true_and,rv3,List.any_eq_true]
  exact .inr ⟨x,by simpa using h1,by simp[h2,hr2]⟩
 ·rintro⟨r,hr1,hr2⟩
  rw[zAu,Bool.true_and,rv3,List.any_eq_true]at hr2
  rcases hr2 with h|⟨x,hx,h⟩
  ·exact⟨c,zus (by omega),by rw[inR,List.any_eq_true];exact⟨r,hr1,h⟩⟩
  ·simp only[zA7,zA3]at h
   refine⟨x,(hm x).2 ⟨by simpa using hx,h.1.1⟩,?_⟩
   rw[inR,List.any_eq_true]
   exact⟨r,hr1,by simp[h.1.2,h.2]⟩
open Go.Ab Go.Rx Go.Wd
theorem zng(s:ByteArray):(Go.Rx.zah s).length≤s.size:=by
 have:=zgr s (s.size-0) 0 (zAj _)
 rw[Go.Rx.zah,zA4];omega
theorem zw8(s:ByteArray):∀f i,rnL s f i=(uB s f i).map (·.r)
 | 0,i=>rfl
 | f+1,i=>by
  rw[rnL,uB]
  split
  ·rw[List.map_cons,zw8 s f]
  ·rfl
theorem zny(s:ByteArray):rnL s s.size 0=Go.Rx.zah s:=by
 rw[Go.Rx.zah,rst,Nat.sub_zero];exact zw8 s _ _
theorem znm{P:Program}{ty:TypeId}{x:Operand}{src dst e:TypeId}{ts td te:TI}{s:ByteArray}{l:List Int}[hs:z1d P src ts][hd':z1d P dst td][he:z1d P e te](hl:Go.Rx.zah s=l)(hks:ts.kind=.str)(hkd:td.kind=.slice e)(hke:te.kind=.int .i32)(hsz:s.size≤1000000) :
 Val P (.convert src dst x) ty [(x,S s)] [] (.d (rnD l)):=by
 have:=zpu (P:=P) (ty:=ty) (x:=x) (src:=src) (dst:=dst) (e:=e) (s:=s) hks hkd hke (by omega)
 rw[zny,hl]at this
 exact this
def rmt(fold:Bool)(e:Rx)(s:ByteArray):Bool:=decide (val e=0)&&zwl s&&zkf (rok fold) (Go.Rx.zah s) e 0 (Go.Rx.zah s).length
theorem zmt(fold:Bool)(e:Rx)(hf:fit e)(s:ByteArray)(hs:s.size≤1000000):z0q prog 137 [.d (Drx e),S s,B fold] (B (rmt fold e s)):=by
 refine z0y fun H=>?_
 have hva:=zeg e hf
 have hvd:=ztg s hs
 have hrl:=zng s
 obtain⟨l,hl⟩:∃l,Go.Rx.zah s=l:=⟨_,rfl⟩
 have hc:∀c∈l,0≤c∧c≤1114111:=fun c hc=>by
  rw[←hl,Go.Rx.zah,List.mem_map]at hc
  obtain⟨u,hu,rfl⟩:=hc
  have:=z3r.1 (zkz s _ 0 (zAj _) u hu)
  omega
 have hen:=y2r fold l (by rw[←hl];omega) hc e hf
 rw[rmt,hl]
 rw[hl]at hrl
 by_cases h0:val e=0
 case neg =>
  rw[zAo h0,Bool.false_and,Bool.false_and]
  generalize val e=v at *
  obtain⟨op,mn,mx,rs,ks⟩:=e
  rw[z4d]at hva⊢
  refine z0g func137 (by kernel_rfl) rfl (by simp) ?_
  dsimp only[f137]
  repeat' first|(apply z05;first|refine z0n ?_| (apply z0a;refine z02 z1r rfl rfl ?_)|(apply z0j;refine z29 hva ?_)|(apply z18;refine z0b z43 ?_))|(apply z06;first|refine z0m ?_|apply z09|refine z1g ?_| refine z39 rfl rfl (fun _=>?_) fun _=>?_)|(apply z07;first|apply z08|apply z00|refine z1j ?_)
  all_goals try omega
  all_goals exact z0e func137 _ z0p ⟨rfl,rfl⟩
 have hen:=hen (zbr h0)
 rw[zAi h0,Bool.true_and]
 rw[h0]at hva
 have hhs:=y3b l.length (zkf (rok fold) l e 0) l.length (zAj _) (by omega)
 have hix:=zh9 (n:=l.length) (a:=zkf (rok fold) l e) (i:=0) (zAf _)
 generalize zkf (rok fold) l e=R at *
 obtain⟨b,hb⟩:∃b,zwl s=b:=⟨_,rfl⟩
 rw[hb]at hvd⊢
 clear h0 hb
 obtain⟨op,mn,mx,rs,ks⟩:=e
 rw[z4d]at hva hen⊢
 refine z0g func137 (by kernel_rfl) rfl (by simp) ?_
 dsimp only[f137]
 cases b with
 | false =>
  repeat' first|(apply z05;first|refine z0n ?_| (apply z0a;refine z02 z1r rfl rfl ?_)|(apply z0j;first|refine z29 hva ?_| refine z29 hvd ?_)|(apply z18;refine z0b z43 ?_))|(apply z06;first|refine z0m ?_|apply z09)|(apply z07;first|apply z08|apply z00|refine z1j ?_)
  all_goals try (exfalso;first|omega|(simp at *;done))
  all_goals exact z0e func137 _ z0p ⟨rfl,rfl⟩
 | true =>
  repeat' first|(apply z05;first|refine z0n ?_| (apply z0a;first|refine z02 z1r rfl rfl ?_| refine z02 z2f rfl rfl ?_)|(apply z0k;refine z02 (z1a (ys:=(rlX l.length R).map fun xs=>[D.slice xs]) rfl hix) rfl rfl ?_)|(apply z0s;refine z02 (z0w rfl) rfl rfl ?_)|(apply z0j;first|refine z29 hva ?_| refine z29 hvd ?_| refine z29 hen ?_| refine z29 hhs ?_)|(apply z18;refine z0b z43 ?_)|refine z02 (znm hl rfl rfl rfl hs) rfl rfl ?_)|(apply z06;first|refine z0m ?_|apply z09)|(apply z07;first|apply z08|apply z00|refine z15 ?_| apply z04)
  all_goals try (exfalso;first|omega|(simp at *;done))
  all_goals exact z0e func137 _ z0p ⟨by rw[Bool.true_and],rfl⟩
theorem zq1(e:Rx)(hf:fit e)(s:ByteArray)(hs:s.size≤1000000):z0q prog 109 [.d (Drx e),S s] (B (rmt false e s)):=by
 refine z0y fun H=>?_
 have h:=zmt false e hf s hs
 generalize rmt false e s=b at *
 obtain⟨op,mn,mx,rs,ks⟩:=e
 rw[z4d]at h⊢
 refine z0g func109 (by kernel_rfl) rfl (by simp) ?_
 dsimp only[f109]
 repeat' first|(apply z05;first|refine z0n ?_| (apply z0a;refine z02 z1r rfl rfl ?_)|(apply z0j;refine z29 h ?_)|(apply z18;refine z0b z43 ?_))|(apply z06;first|refine z0m ?_|apply z09)|(apply z07;first|apply z08|apply z00)
 all_goals exact z0e func109 _ z0p ⟨rfl,rfl⟩
theorem y0v(c:Int)(l:List Rg):rok false c l=okV (fun c=>[c]) c l:=by
 rw[rok,okV,List.any_cons,List.any_nil,Bool.or_false,inR]
 congr 1
 funext r
 simp
theorem zxq(e:Rx)(s:ByteArray):rmt false e s=mtS (fun c=>[c]) e s:=by
 rw[rmt,mtS]
 by_cases h0:val e=0
 ·congr 1
  rw[show rok false=okV (fun c=>[c])from funext fun c=>funext fun l=>y0v c l,Bool.eq_iff_iff,zmv _ _ _ (zbr h0),zqi _ _ (zbr h0)]
 ·rw[zAo h0];rfl
theorem zp5(e:Rx)(hf:fit e)(s:ByteArray)(hs:s.size≤1000000):z0q prog 108 [.d (Drx e),S s] (B (rmt true e s)):=by
 have h:=zmt true e hf s hs
 refine z0y fun H=>?_
 generalize rmt true e s=b at *
 obtain⟨op,mn,mx,rs,ks⟩:=e
 rw[z4d]at h⊢
 refine z0g func108 (by kernel_rfl) rfl (by simp) ?_
 dsimp only[f108]
 repeat' first|(apply z05;first|refine z0n ?_| (apply z0a;refine z02 z1r rfl rfl ?_)|(apply z0j;refine z29 h ?_)|(apply z18;refine z0b z43 ?_))|(apply z06;first|refine z0m ?_|apply z09)|(apply z07;first|apply z08|apply z00)
 all_goals exact z0e func108 _ z0p ⟨rfl,rfl⟩
theorem zt8(e:Rx)(s:ByteArray):rmt true e s=mtS zgk e s:=by
 rw[rmt,mtS]
 by_cases h0:val e=0
 ·congr 1
  rw[zto e (ok:=okV zgk) (ok':=rok true) fun c hc=>zyr (by
   rw[Go.Rx.zah,List.mem_map]at hc
   obtain⟨u,hu,rfl⟩:=hc
   exact zkz s _ 0 (zAj _) u hu)]
  rw[Bool.eq_iff_iff,zmv _ _ _ (zbr h0),zqi _ _ (zbr h0)]
 ·rw[zAo h0];rfl
end Go.Proofs.YtonhfccmeammbaaGreatDoor
