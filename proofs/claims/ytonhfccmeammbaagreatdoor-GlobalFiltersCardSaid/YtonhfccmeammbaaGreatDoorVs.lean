/- A part. -/
import Derived.Shelf.Small.Utf8
import Derived.Shelf.Small.Strs
import Derived.Shelf.Strings.Search1
import Derived.Shelf.Unicode.Decode
import Derived.Shelf.Unicode.DecodeAny
import Derived.Test.YtonhfccmeammbaaGreatDoorVp
set_option linter.all false
open Go.Proofs.Tryz
namespace Go.Proofs.YtonhfccmeammbaaGreatDoor
open Go.Proofs
open Go.Shelf
def zko:Go.Shelf.Ren:=⟨fun|119=>215|n=>n,fun|21=>21|4=>4|n=>n,fun|n=>n⟩
theorem zz9:Go.Proofs.Lays.n119 prog zko:={
 mixed:=by kernel_rfl
 f119:=func215.trans (congrArg some (by kernel_rfl))
 t4:=underlying4
 a4:=isAgg4
 z4:=sizeOf4
 v4:=zeroValue4
 t21:=underlying21
 a21:=isAgg21
 z21:=sizeOf21
 v21:=zeroValue21 }
theorem utf8_ValidRune(r:Int)(w:World) :
 Calls prog 215 #[.int .i32 r] w fun e w'=>e=.returned (.bool (Lib.validRune r))∧w'=w:=Any.utf8_ValidRune zz9 r w
def zkc:Go.Shelf.Ren:=⟨fun|137=>214|217=>221|266=>232|n=>n,fun|9=>9|5=>5|3=>3|n=>n,fun|n=>n⟩
theorem zys:Go.Proofs.Lays.n137 prog zkc:={
 mixed:=by kernel_rfl
 f137:=func214.trans (congrArg some (by kernel_rfl))
 f217:=func221.trans (congrArg some (by kernel_rfl))
 f266:=func232.trans (congrArg some (by kernel_rfl))
 t3:=underlying3
 a3:=isAgg3
 z3:=sizeOf3
 v3:=zeroValue3
 t5:=underlying5
 a5:=isAgg5
 z5:=sizeOf5
 v5:=zeroValue5
 t9:=underlying9
 a9:=isAgg9
 z9:=sizeOf9
 v9:=zeroValue9 }
open Go.RowKit in
theorem strings_IndexByte(s:ByteArray)(c:Int)(w:World) :
 Calls prog 214 #[.string s,.int .u8 c] w fun e w'=>e=.returned (.int .i64 (Lib.indexByte s.data.toList c.toNat.toUInt8))∧w'=w:=Any.strings_IndexByte zys s c w
def zl5:Go.Shelf.Ren:=⟨fun|197=>169|260=>186|n=>n,fun|9=>9|21=>21|3=>3|4=>4|5=>5|105=>201|119=>229|0=>0|46=>217|139=>232|138=>231|n=>n,fun|3=>0|4=>1|n=>n⟩
theorem y0d:Go.Proofs.Lays.n197 prog zl5:={
 mixed:=by kernel_rfl
 f197:=func169.trans (congrArg some (by kernel_rfl))
 f260:=func186.trans (congrArg some (by kernel_rfl))
 t0:=underlying0
 a0:=isAgg0
 z0:=sizeOf0
 v0:=zeroValue0
 t3:=underlying3
 a3:=isAgg3
 z3:=sizeOf3
 v3:=zeroValue3
 t4:=underlying4
 a4:=isAgg4
 z4:=sizeOf4
 v4:=zeroValue4
 t5:=underlying5
 a5:=isAgg5
 z5:=sizeOf5
 v5:=zeroValue5
 t9:=underlying9
 a9:=isAgg9
 z9:=sizeOf9
 v9:=zeroValue9
 t21:=underlying21
 a21:=isAgg21
 z21:=sizeOf21
 v21:=zeroValue21
 t46:=underlying217
 a46:=isAgg217
 z46:=sizeOf217
 v46:=zeroValue217
 t105:=underlying201
 a105:=isAgg201
 z105:=sizeOf201
 v105:=zeroValue201
 t119:=underlying229
 a119:=isAgg229
 z119:=sizeOf229
 t138:=underlying231
 a138:=isAgg231
 z138:=sizeOf231
 v138:=zeroValue231
 t139:=underlying232
 a139:=isAgg232
 z139:=sizeOf232
 v139:=zeroValue232
 g3:=by kernel_rfl
 g4:=by kernel_rfl }
open Go.RowKit Go.Lib in
def z89:Go.Shelf.Ren:=⟨fun|260=>186|n=>n,fun|9=>9|21=>21|3=>3|4=>4|5=>5|119=>229|0=>0|46=>217|139=>232|138=>231|n=>n,fun|3=>0|4=>1|n=>n⟩
theorem zhb:Go.Proofs.Lays.n260 prog z89:={
 mixed:=by kernel_rfl
 f260:=func186.trans (congrArg some (by kernel_rfl))
 t0:=underlying0
 a0:=isAgg0
 z0:=sizeOf0
 v0:=zeroValue0
 t3:=underlying3
 a3:=isAgg3
 z3:=sizeOf3
 v3:=zeroValue3
 t4:=underlying4
 a4:=isAgg4
 z4:=sizeOf4
 v4:=zeroValue4
 t5:=underlying5
 a5:=isAgg5
 z5:=sizeOf5
 v5:=zeroValue5
 t9:=underlying9
 a9:=isAgg9
 z9:=sizeOf9
 v9:=zeroValue9
 t21:=underlying21
 a21:=isAgg21
 z21:=sizeOf21
 v21:=zeroValue21
 t46:=underlying217
 a46:=isAgg217
 z46:=sizeOf217
 v46:=zeroValue217
 t119:=underlying229
 a119:=isAgg229
 z119:=sizeOf229
 t138:=underlying231
 a138:=isAgg231
 z138:=sizeOf231
 v138:=zeroValue231
 t139:=underlying232
 a139:=isAgg232
 z139:=sizeOf232
 v139:=zeroValue232
 g3:=by kernel_rfl
 g4:=by kernel_rfl }
open Go.RowKit Go.Lib in
open Go.RowKit Go.Lib in
theorem utf8_DecodeRuneInString(s:ByteArray)(w:World)(hT:Lib.Utf8Tabs 0 1 w) :
 Calls prog 169 #[.string s] w fun e w'=>e=.returned (.tuple #[.int .i32 (Lib.decodeGo s).1,.int .i64 (Lib.decodeGo s).2])∧Below w.heap.size w w':=Any.utf8_DecodeRuneInString y0d s w hT
end Go.Proofs.YtonhfccmeammbaaGreatDoor
namespace Go.Proofs.YtonhfccmeammbaaGreatDoor
open Go.Ab Go.Rx
set_option maxHeartbeats 20000000
set_option maxRecDepth 100000
attribute [local irreducible] Run Ops Op1 z1z Val Tr z0q z1v NF Rel z5c z5d
structure Tab where
 o0:Obj
 o1:Obj
 ok:∀w:World,w.heap[0]? =some o0→w.heap[1]? =some o1→Lib.Utf8Tabs 0 1 w
variable{τ:Tab}
abbrev z98(τ:Tab)(e:Nat):List (Nm × Blk):=[((e,700),.glob 0 τ.o0),((e,701),.glob 1 τ.o1)]
structure HT(τ:Tab)(e:Nat)(H:Hf):Prop where
 a:H e 700=some (.glob 0 τ.o0)
 b:H e 701=some (.glob 1 τ.o1)
theorem HT.of{e:Nat}{H:Hf}{bs:List (Nm × Blk)}(h:∀q∈bs++z98 τ e,H q.1.1 q.1.2=some q.2):HT τ e H :=
 ⟨h ((e,700),.glob 0 τ.o0) (by simp),h ((e,701),.glob 1 τ.o1) (by simp)⟩
theorem HT.upd{e d X:Nat}{H:Hf}{b:Blk}(h:HT τ e H)(h0:X≠700)(h1:X≠701):HT τ e (upd H (d,X) b):=by
 refine⟨?_,?_⟩
 ·have:=z92 H (d,X) (e,700) b (fun q=>h0 (Prod.mk.inj q).2.symm)
  exact this.trans h.a
 ·have:=z92 H (d,X) (e,701) b (fun q=>h1 (Prod.mk.inj q).2.symm)
  exact this.trans h.b
theorem bkT{e n:Nat}{tm:List (Nat × PV)}{hp:Hp}{up:Hf}(h:HT τ e up):BkE ⟨n,tm,hp,up⟩ (z98 τ (e+1)) :=
 z2j (m:=(e+1,700)) h.a (z2j (m:=(e+1,701)) h.b z8m)
theorem HT.push{e:Nat}{H:Hf}(hp:Hp)(h:HT τ e H):HT τ (e+1) (Ab.push hp H):=⟨h.a,h.b⟩
theorem zmw(τ:Tab)(s:ByteArray)(e:Nat):z1v prog 169 [S s] (z98 τ e) [] (.tup [I .i32 ((Lib.decodeGo s).1:Nat),I .i64 ((Lib.decodeGo s).2:Nat)]):=by
 refine zj4 ⟨_,func169,by kernel_rfl,by kernel_rfl⟩ fun H hH β own w vals hHR hA=>?_
 obtain⟨hl,ha⟩:=hA
 obtain⟨v,rfl⟩:∃v,vals=[v]:=by
  match vals,hl with
  | [v],_=>exact⟨v,rfl⟩
 have hv:=PR.lit (ha 0 _ v rfl rfl)
 subst hv
 have h0:=hHR.blk (e,700) (.glob 0 τ.o0) (by
  have:=hH ((e,700),.glob 0 τ.o0) (by simp)
  cases e with
  | zero=>exact this
  | succ e=>simp only[z19];rw[this];rfl)
 have h1:=hHR.blk (e,701) (.glob 1 τ.o1) (by
  have:=hH ((e,701),.glob 1 τ.o1) (by simp)
  cases e with
  | zero=>exact this
  | succ e=>simp only[z19];rw[this];rfl)
 have hT:Lib.Utf8Tabs 0 1 w:=by
  refine τ.ok w ?_ ?_
  ·generalize β (e,700)=x at h0
   cases h0 with|glob _ _ ho hg hd=>exact hg
  ·generalize β (e,701)=x at h1
   cases h1 with|glob _ _ ho hg hd=>exact hg
 refine⟨_,utf8_DecodeRuneInString s w hT,fun w' own'=>?_⟩
 refine .tup _ _ rfl fun j p v hp hv=>?_
 match j,hp,hv with
 | 0,hp,hv=>simp at hp hv;subst hp;subst hv;exact PR.I _ _
 | 1,hp,hv=>simp at hp hv;subst hp;subst hv;exact PR.I _ _
abbrev pbx(s:ByteArray)(at_:Int)(a e:Int):Blk:=.box [S s,I .i64 at_,I .i64 a,I .i64 e]
section
variable{X:Nat}(hX0:X≠700)(hX1:X≠701)
theorem zb0(τ:Tab)(s:ByteArray)(i:Nat)(hi:i≤s.size)(a e:Int)(e0:Nat):z1v prog 147 [.ptr (e0,X) 0] (((e0,X),pbx s i a e)::z98 τ (e0+1)) [] (I .i32 (nx (rst s i))):=by
 refine z2a fun H hH=>?_
 have hX:=hH ((e0,X),pbx s i a e) (by simp)
 have hT:HT τ (e0+1) H:=HT.of (bs:=[((e0,X),pbx s i a e)]) hH
 refine z0g func147 (by kernel_rfl) rfl (by simp) ?_
 dsimp only[f147]
 by_cases hlt:i<s.size
 ·have hd:=zmw τ (s.extract i s.size) (e0+1+1)
  rw[y29 s i hlt]at hd
  rw[zw9 hlt]
  repeat' first|(apply z05;refine z0n ?_)|(apply z06;first|refine z0m ?_|apply z09)|(apply z07;first|apply z08|apply z00|apply z04|apply z2o|refine z0h (fun _=>?_) fun _=>?_)|(apply z2m;first|(apply z1e;refine z2c mix ?_)|refine z2w ?_| (apply z0v;refine z0x (z16 (b:=pbx s i a e)) rfl (bkN hX) ?_)|(apply z0u;refine z0x z0i rfl rfl ?_)|(apply z7b;refine z0x (zek rfl (by omega) (by omega)) rfl rfl ?_)|(apply z3v;refine z0x (z63 rfl) rfl rfl ?_)|(apply z1s;refine zjd hd (by first|exact rfl|exact⟨_,rfl,rfl,rfl⟩) rfl (bkT hT) (by decide) ?_))
  all_goals try omega
  exact z0e func147 _ z0p ⟨rfl,rfl⟩
 ·rw[z68 (by omega)]
  obtain rfl:i=s.size:=by omega
  repeat' first|(apply z05;refine z0n ?_)|(apply z06;first|refine z0m ?_|apply z09)|(apply z07;first|apply z08|apply z00|apply z04|apply z2o|refine z0h (fun _=>?_) fun _=>?_)|(apply z2m;first|(apply z1e;refine z2c mix ?_)|refine z2w ?_| (apply z0v;refine z0x (z16 (b:=pbx s s.size a e)) rfl (bkN hX) ?_)|(apply z0u;refine z0x z0i rfl rfl ?_)|(apply z3v;refine z0x (z63 rfl) rfl rfl ?_))
  all_goals try omega
  exact z0e func147 _ z0p ⟨rfl,rfl⟩
theorem y2a(τ:Tab)(s:ByteArray)(i:Nat)(hi:i<s.size)(hs:s.size≤1000000)(a e:Int)(e0:Nat):z1v prog 209 [.ptr (e0,X) 0] (((e0,X),pbx s i a e)::z98 τ (e0+1)) [((e0,X),pbx s ((i+(Utf8.decode s i).2:Nat):Int) a e)] (.tup []):=by
 refine z2a fun H hH=>?_
 have hX:=hH ((e0,X),pbx s i a e) (by simp)
 have hT:HT τ (e0+1) H:=HT.of (bs:=[((e0,X),pbx s i a e)]) hH
 have hw:=zcv s i hi
 refine z0g func209 (by kernel_rfl) rfl (by simp) ?_
 dsimp only[f209]
 have hd:=zmw τ (s.extract i s.size) (e0+1+1)
 rw[y29 s i hi]at hd
 repeat' first|(apply z05;first|refine z0n ?_| (apply z0a;refine z02 (z16 (b:=pbx s i a e)) rfl (bkN hX) ?_)|(apply z0c;refine z02 z0i rfl rfl ?_)|(apply z0t;refine z02 (z0z z1h) rfl rfl ?_)|(apply z0f;refine z5k (raw:=pbx s i a e) (raw':=pbx s (i+(Utf8.decode s i).2) a e) rfl hX rfl rfl rfl rfl rfl rfl ?_))|(apply z06;first|refine z0m ?_|apply z09)|(apply z07;first|apply z08|apply z00|apply z2o)|(apply z2m;first|(apply z1e;refine z2c mix ?_)|refine z2w ?_| (apply z0v;refine z0x (z16 (b:=pbx s i a e)) rfl (bkN hX) ?_)|(apply z0u;refine z0x z0i rfl rfl ?_)|(apply z7b;refine z0x (zek rfl (by omega) (by omega)) rfl rfl ?_)|(apply z1s;refine zjd hd (by first|exact rfl|exact⟨_,rfl,rfl,rfl⟩) rfl (bkT hT) (by decide) ?_))
 all_goals try omega
 rw[←Int.natCast_add]
 exact zcc func209 _ (z4j rfl) ⟨rfl,rfl⟩
end
end Go.Proofs.YtonhfccmeammbaaGreatDoor
namespace Go.Proofs.YtonhfccmeammbaaGreatDoor
open Go.Ab Go.Rx
set_option maxHeartbeats 20000000
set_option maxRecDepth 100000
attribute [local irreducible] Run Ops Op1 z1z Val Tr z0q z1v NF Rel z5c z5d
theorem zfj{g:FuncId}{ps:List PV}{p:PV}(hp:Plain prog g)(h:∀β own w vals,z8g β w own ps vals→∃v,Calls prog g vals.toArray w (fun e w'=>e=.returned v∧w'=w)∧∀w' own',PR β w' own' p v):z0q prog g ps p:=by
 have:=zj4 (bs:=[]) hp fun H hH β own w vals hHR hA=>by
  obtain⟨v,hc,hv⟩:=h β own w vals hA
  exact⟨v,hc.mono fun e w' ⟨h1,h2⟩=>⟨h1,by subst h2;exact RowKit.Below.refl _ _⟩,hv⟩
 unfold z0q
 intro H
 unfold z1v at this
 have h2:=this H (by simp)
 exact h2
theorem zqj(s:ByteArray)(c:Int):z0q prog 214 [S s,I .u8 c] (I .i64 (Lib.indexByte s.data.toList c.toNat.toUInt8)):=by
 refine zfj ⟨_,func214,by kernel_rfl,by kernel_rfl⟩ fun β own w vals hA=>?_
 obtain⟨hl,ha⟩:=hA
 obtain⟨v,u,rfl⟩:∃v u,vals=[v,u]:=by
  match vals,hl with
  | [v,u],_=>exact⟨v,u,rfl⟩
 have hv:=PR.lit (ha 0 _ v rfl rfl)
 have hu:=PR.lit (ha 1 _ u rfl rfl)
 subst hv hu
 exact⟨_,strings_IndexByte s c w,fun w' own'=>PR.I _ _⟩
theorem zkw(r:Int):z0q prog 215 [I .i32 r] (B (Lib.validRune r)):=by
 refine zfj ⟨_,func215,by kernel_rfl,by kernel_rfl⟩ fun β own w vals hA=>?_
 obtain⟨hl,ha⟩:=hA
 obtain⟨v,rfl⟩:∃v,vals=[v]:=by
  match vals,hl with
  | [v],_=>exact⟨v,rfl⟩
 have hv:=PR.lit (ha 0 _ v rfl rfl)
 subst hv
 exact⟨_,utf8_ValidRune r w,fun w' own'=>PR.B _⟩
def spB(l:List Int):ByteArray:=⟨(l.map fun c=>UInt8.ofNat c.toNat).toArray⟩
theorem zp6:∀(l:List UInt8) (c:UInt8),(∀b∈l,b≠c)→Lib.indexByte l c=-1
 | [],c,_=>rfl
 | b::l,c,h=>by
  have hb:(b == c)=false:=by simpa using h b (by simp)
  rw[Lib.indexByte,hb,zp6 l c fun x hx=>h x (by simp[hx])];rfl
structure Sp(sp:List Int):Prop where
 size:5≤(spB sp).size∧(spB sp).size≤12
 asc:∀b∈(spB sp).data.toList,b.toNat<128
 idx:∀c:Fin 128,decide (0≤Lib.indexByte (spB sp).data.toList (UInt8.ofNat c.val))=sp.contains (c.val:Int)
 rng:∀c∈sp,0≤c∧c<128
theorem y6l:Sp spA:=⟨by decide,by decide,by decide +kernel,by decide⟩
def ixR(sp:List Int)(c:Int):Int:=if 0≤c∧c<128 then Lib.indexByte (spB sp).data.toList c.toNat.toUInt8 else -1
theorem y66{sp:List Int}(h:Sp sp)(c:Int):decide (0≤ixR sp c)=sp.contains c:=by
 rw[ixR]
 by_cases hc:0≤c∧c<128
 ·rw[zAz hc]
  have:=h.idx ⟨c.toNat,by omega⟩
  rw[show(((⟨c.toNat,by omega⟩:Fin 128).val:Nat):Int)=c by simp;omega]at this
  exact this
 ·rw[zAy hc]
  symm
  rw[show decide ((0:Int)≤-1)=false by decide,Bool.eq_false_iff]
  intro h2
  exact hc (h.rng c (by simpa using h2))
theorem zy4{sp:List Int}(h:Sp sp){i:Nat}(hi:i<(spB sp).size):∃b,(spB sp)[i]? =some b∧b.toNat<128:=by
 refine⟨(spB sp)[i],getElem?_pos _ i hi,h.asc _ ?_⟩
 exact Array.getElem_mem_toList (by exact hi)
theorem ztb{c:Int}(h:128≤c)(hv:Utf8.valid c=true):∃b,2≤(Utf8.encode c).size∧(Utf8.encode c).size≤4∧(Utf8.encode c)[(Utf8.encode c).size-1]? =some b∧128≤b.toNat:=by
 have h2:c.toNat≤1114111:=by
  have:=zml (c:=c.toNat) (by rw[show((c.toNat:Nat):Int)=c by omega];exact hv)
  exact this
 obtain⟨n,rfl⟩:∃n:Nat,c=n:=⟨c.toNat,by omega⟩
 unfold Utf8.encode
 simp only[hv,if_true,zA9]
 have hm:∀q:Nat,(UInt8.ofNat (128+q % 64)).toNat=128+q % 64:=fun q=>by simp;omega
 have h3:128≤n:=by omega
 rw[zAy (show ¬n<128 by omega)]
 split
 ·exact⟨UInt8.ofNat (128+n % 64),(show 2≤2 by decide),(show 2≤4 by decide),rfl,by rw[hm];omega⟩
 split
 ·exact⟨UInt8.ofNat (128+n % 64),(show 2≤3 by decide),(show 3≤4 by decide),rfl,by rw[hm];omega⟩
 ·exact⟨UInt8.ofNat (128+n % 64),(show 2≤4 by decide),(show 4≤4 by decide),rfl,by rw[hm];omega⟩
theorem zuz(c:Int):Lib.validRune c=Utf8.valid c:=by
 unfold Lib.validRune Utf8.valid
 rw[Bool.eq_iff_iff,zA3,zAu,zA7,zA7,zA3,zA3,zA3,zA3]
 omega
theorem zqn{sp:List Int}(hsp:Sp sp)(c:Int)(hc0:-1≤c)(hc1:c≤1114111):z0q prog 208 [S (spB sp),I .i32 c] (I .i64 (ixR sp c)):=by
 refine z0y fun H=>?_
 refine z0g func208 (by kernel_rfl) rfl (by simp) ?_
 dsimp only[f208]
 have hsz:=hsp.size
 by_cases h1:0≤c∧c<128
 ·have hi:=zqj (spB sp) c
  rw[ixR,zAz h1]
  have hw8:IntKind.u8.wrap c=c:=by simp[IntKind.wrap,IntKind.bits,IntKind.signed];omega
  repeat' first|(apply z05;first|refine z0n ?_| (apply z0j;refine z29 hi ?_)|(apply z9u;refine z02 (y3m rfl rfl hw8) rfl rfl ?_))|(apply z06;first|refine z0m ?_|apply z09|refine z1g ?_| refine z1p (fun _=>?_) fun _=>?_)|(apply z07;first|apply z08|apply z00|refine z15 ?_| apply z01|refine z0h (fun _=>?_) fun _=>?_)
  all_goals try omega
  exact z0e func208 _ z0p ⟨rfl,rfl⟩
 rw[ixR,zAy h1]
 by_cases h2:c=65533
 ·subst h2
  repeat' first|(apply z05;first|refine z0n ?_| refine zaj rfl rfl rfl (by decide) ?_)|(apply z06;first|refine z0m ?_|apply z09)|(apply z07;first|apply z08|apply z00|refine z1j ?_| refine z15 ?_| apply z01)
  all_goals try omega
  refine z0r ?_
  refine z0d (z1o (fun q:Nat=>⟨187,[(175,.ptr (0,175) 0)],[(175,.siter (spB sp) q)],H⟩) (fun q=>True) (fun q=>(spB sp).size-q) ?_ 0 trivial) rfl rfl
  intro q _ ih
  by_cases hlt:q<(spB sp).size
  ·have hda:=decode_ascii (spB sp) q hlt (hsp.asc _ (Array.getElem_mem_toList (by exact hlt)))
   have hb:=hsp.asc _ (Array.getElem_mem_toList (xs:=(spB sp).data) (by exact hlt))
   have hne:((Utf8.decode (spB sp) q).1:Int)≠65533:=by
    rw[hda]
    have:((spB sp)[q]'hlt).toNat<128:=hb
    simp only;omega
   have hw:=zcv (spB sp) q hlt
   repeat' first|(apply z05;first|refine z0n ?_| refine z3e hlt rfl rfl (by decide) ?_)|(apply z06;first|refine z0m ?_|apply z09)|(apply z07;first|apply z08|apply z00|refine z1j ?_| apply z04|apply z01|apply z03|refine z0h (fun _=>?_) fun _=>?_)
   all_goals try omega
   exact z0d (ih _ trivial (by omega)) rfl rfl
  ·repeat' (first|(apply z05;first|refine z0n ?_| refine z3f hlt rfl rfl (by decide) ?_)|(apply z06;first|refine z0m ?_|apply z09)|(apply z07;first|apply z08|apply z00|refine z15 ?_| refine z0o ?_))
   all_goals try omega
   exact z0e func208 _ z0p ⟨rfl,rfl⟩
 have hv:=zkw c
 rw[zuz]at hv
 cases hvv:Utf8.valid c with
 | false =>
  rw[hvv]at hv
  repeat' first|(apply z05;first|refine z0n ?_| (apply z0j;refine z29 hv ?_))|(apply z06;first|refine z0m ?_|apply z09|refine z1g ?_| refine z1p (fun _=>?_) fun _=>?_)|(apply z07;first|apply z08|apply z00|refine z1j ?_| refine z15 ?_| apply z01|refine z0h (fun _=>?_) fun _=>?_)
  all_goals try omega
  all_goals exact z0e func208 _ z0p ⟨rfl,rfl⟩
 | true =>
  rw[hvv]at hv
  have hc:128≤c:=by
   false_or_by_contra
   have:c=-1:=by omega
   subst this;revert hvv;decide
  obtain⟨b,e1,e2,e3,e4⟩:=ztb hc hvv
  have e3':(Utf8.encode c)[(((Utf8.encode c).size:Int)-1).toNat]? =some b:=by rw[←e3];congr 1;omega
  obtain⟨b0,f1,f2⟩:=zy4 hsp (i:=(Utf8.encode c).size-1) (by omega)
  have f1':(spB sp)[(((Utf8.encode c).size:Int)-1).toNat]? =some b0:=by rw[←f1];congr 1;omega
  have hi:=zqj ((spB sp).extract (((Utf8.encode c).size:Int)-1+1).toNat (spB sp).size) b.toNat
  rw[zp6 _ _ (fun x hx=>by
   have hm:x∈(spB sp).data.toList:=by
    rw[ByteArray.data_extract,Array.toList_extract]at hx
    exact List.mem_of_mem_drop (List.mem_of_mem_take hx)
   have:=hsp.asc x hm
   intro he
   subst he
   simp at e4 this;omega)]at hi
  repeat' first|(apply z05;first|refine z0n ?_| (apply z0t;refine z02 (z2l z1h) rfl rfl ?_)|(apply z0s;refine z02 (z63 rfl) rfl rfl ?_)|(apply z0j;refine z29 hv ?_)|(apply z9u;refine z02 (zaw rfl rfl) rfl rfl ?_))|(apply z06;first|refine z0m ?_|apply z09|refine z1g ?_| refine z1p (fun _=>?_) fun _=>?_)|(apply z07;first|apply z08|apply z00|refine z15 ?_| apply z01|apply zor|refine z0h (fun _=>?_) fun _=>?_)
  all_goals try omega
  refine z0r ?_
  refine z1u ?_
  repeat' first|(apply z05;first|refine z0n ?_| (apply z0s;refine z02 (z63 rfl) rfl rfl ?_))|(apply z06;first|refine z0m ?_|apply z09)|(apply z07;first|apply z08|apply z00|refine z1j ?_| apply z04|apply z01|apply zor|apply z2o|refine z0h (fun _=>?_) (fun _=>?_)| refine z38 rfl (fun _=>?_) (fun _=>?_)|refine z0o ?_)|(apply z2m;first|(apply z1e;refine z2c mix ?_)|refine z2w ?_| (apply zq2;first|refine z0x (z7i rfl (by omega) e3') rfl rfl ?_| refine z0x (z7i rfl (by omega) f1') rfl rfl ?_)|(apply z3p;refine z0x (z0z z1h) rfl rfl ?_)|(apply z7b;refine z0x (zek rfl (by omega) (by omega)) rfl rfl ?_)|(apply z1s;refine z5b hi ?_))
  all_goals try omega
  exact z0e func208 _ z0p ⟨rfl,rfl⟩
theorem zew{sp:List Int}(hsp:Sp sp)(c:Int)(hc0:-1≤c)(hc1:c≤1114111):z0q prog 197 [S (spB sp),I .i32 c] (B (sp.contains c)):=by
 refine z0y fun H=>?_
 refine z0g func197 (by kernel_rfl) rfl (by simp) ?_
 dsimp only[f197]
 have h:=zqn hsp c hc0 hc1
 rw[←y66 hsp]
 repeat' first|(apply z05;first|refine z0n ?_| (apply z0j;refine z29 h ?_))|(apply z06;first|refine z0m ?_|apply z09)|(apply z07;first|apply z08|apply z00)
 all_goals try omega
 exact z0e func197 _ z0p ⟨rfl,rfl⟩
theorem zx3(s:ByteArray)(i:Nat):-1≤nx (rst s i)∧nx (rst s i)≤1114111:=by
 by_cases hi:i<s.size
 ·rw[zw9 hi];have:=zrb s i;omega
 ·rw[z68 (by omega)];simp[nx]
section
variable{X:Nat}(hX0:X≠700)(hX1:X≠701)(τ:Tab)(s:ByteArray)(hs:s.size≤1000000)
include hX0 hX1 hs
end
abbrev eX(e:Rx):D:=.agg (rxc e)
theorem y1s(a b:Int):z0q prog 195 [I .i32 a,I .i32 b] (.d (eX (Rx.one a b))):=by
 refine z0y fun H=>?_
 refine z0g func195 (by kernel_rfl) rfl (by simp) ?_
 dsimp only[f195]
 repeat' first|(apply z05;first|refine z0n ?_| (apply z0f;refine z25 ?_)|(apply z0l;refine z0b z2e ?_)|(apply z1n;refine z2y ?_)|(apply z3c;refine z3b rfl ?_))|(apply z06;first|refine z0m ?_|apply z09)|(apply z07;first|apply z08|apply z00)
 all_goals try omega
 exact z0e func195 _ (z1x rfl rfl rfl rfl rfl rfl) ⟨rfl,rfl⟩
theorem zqh(a b:Int):eX (Rx.one a b)=.agg [z2g 1,z2g 0,z2g 0,rgs [(a,b)],.slice []]:=rfl
theorem z7u(op mn mx:Int)(rs:List Rg)(ks:List Rx):eX (.mk op mn mx rs ks)=.agg (rx5 op mn mx rs ks):=by rw[eX,z3i]
end Go.Proofs.YtonhfccmeammbaaGreatDoor
