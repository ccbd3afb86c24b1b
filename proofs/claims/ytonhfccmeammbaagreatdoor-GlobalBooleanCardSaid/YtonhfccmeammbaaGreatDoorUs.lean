/- A part of the proof: Shg to GE. -/
import Derived.Shelf.Small.Utf8
import Derived.Shelf.Small.Strs
import Derived.Shelf.Strings.Search1
import Derived.Shelf.Unicode.Decode
import Derived.Shelf.Unicode.DecodeAny
import Derived.Test.YtonhfccmeammbaaGreatDoorProg
import Derived.Test.YtonhfccmeammbaaGreatDoorUp
import Derived.Test.YtonhfccmeammbaaGreatDoorUc
import Derived.Test.YtonhfccmeammbaaGreatDoorUx
set_option linter.all false
namespace Go.Proofs.YtonhfccmeammbaaGreatDoor
open Go.Proofs
open Go.Shelf
def zh3:Go.Shelf.Ren:=⟨fun|119=>215|n=>n,fun|21=>21|4=>4|n=>n,fun|n=>n⟩
theorem zs8:Go.Proofs.Lays.n119 Tryz.prog zh3:={
 mixed:=by kernel_rfl
 f119:=Tryz.func215.trans (congrArg some (by kernel_rfl))
 t4:=Tryz.underlying4
 a4:=Tryz.isAgg4
 z4:=Tryz.sizeOf4
 v4:=Tryz.zeroValue4
 t21:=Tryz.underlying21
 a21:=Tryz.isAgg21
 z21:=Tryz.sizeOf21
 v21:=Tryz.zeroValue21 }
theorem utf8_ValidRune (r:Int) (w:World) :
 Calls Tryz.prog 215 #[.int .i32 r] w fun e w'=>e=.returned (.bool (Lib.validRune r))∧w'=w:=Any.utf8_ValidRune zs8 r w
def zhu:Go.Shelf.Ren:=⟨fun|137=>214|217=>221|266=>232|n=>n,fun|9=>9|5=>5|3=>3|n=>n,fun|n=>n⟩
theorem zt5:Go.Proofs.Lays.n137 Tryz.prog zhu:={
 mixed:=by kernel_rfl
 f137:=Tryz.func214.trans (congrArg some (by kernel_rfl))
 f217:=Tryz.func221.trans (congrArg some (by kernel_rfl))
 f266:=Tryz.func232.trans (congrArg some (by kernel_rfl))
 t3:=Tryz.underlying3
 a3:=Tryz.isAgg3
 z3:=Tryz.sizeOf3
 v3:=Tryz.zeroValue3
 t5:=Tryz.underlying5
 a5:=Tryz.isAgg5
 z5:=Tryz.sizeOf5
 v5:=Tryz.zeroValue5
 t9:=Tryz.underlying9
 a9:=Tryz.isAgg9
 z9:=Tryz.sizeOf9
 v9:=Tryz.zeroValue9 }
open Go.RowKit in
theorem strings_IndexByte (s:ByteArray) (c:Int) (w:World) :
 Calls Tryz.prog 214 #[.string s,.int .u8 c] w fun e w'=>e=.returned (.int .i64 (Lib.indexByte s.data.toList c.toNat.toUInt8))∧w'=w:=Any.strings_IndexByte zt5 s c w
def zh4:Go.Shelf.Ren:=⟨fun|197=>169|260=>186|n=>n,fun|9=>9|21=>21|3=>3|4=>4|5=>5|105=>201|119=>229|0=>0|46=>217|139=>232|138=>231|n=>n,fun|3=>0|4=>1|n=>n⟩
theorem ztg:Go.Proofs.Lays.n197 Tryz.prog zh4:={
 mixed:=by kernel_rfl
 f197:=Tryz.func169.trans (congrArg some (by kernel_rfl))
 f260:=Tryz.func186.trans (congrArg some (by kernel_rfl))
 t0:=Tryz.underlying0
 a0:=Tryz.isAgg0
 z0:=Tryz.sizeOf0
 v0:=Tryz.zeroValue0
 t3:=Tryz.underlying3
 a3:=Tryz.isAgg3
 z3:=Tryz.sizeOf3
 v3:=Tryz.zeroValue3
 t4:=Tryz.underlying4
 a4:=Tryz.isAgg4
 z4:=Tryz.sizeOf4
 v4:=Tryz.zeroValue4
 t5:=Tryz.underlying5
 a5:=Tryz.isAgg5
 z5:=Tryz.sizeOf5
 v5:=Tryz.zeroValue5
 t9:=Tryz.underlying9
 a9:=Tryz.isAgg9
 z9:=Tryz.sizeOf9
 v9:=Tryz.zeroValue9
 t21:=Tryz.underlying21
 a21:=Tryz.isAgg21
 z21:=Tryz.sizeOf21
 v21:=Tryz.zeroValue21
 t46:=Tryz.underlying217
 a46:=Tryz.isAgg217
 z46:=Tryz.sizeOf217
 v46:=Tryz.zeroValue217
 t105:=Tryz.underlying201
 a105:=Tryz.isAgg201
 z105:=Tryz.sizeOf201
 v105:=Tryz.zeroValue201
 t119:=Tryz.underlying229
 a119:=Tryz.isAgg229
 z119:=Tryz.sizeOf229
 t138:=Tryz.underlying231
 a138:=Tryz.isAgg231
 z138:=Tryz.sizeOf231
 v138:=Tryz.zeroValue231
 t139:=Tryz.underlying232
 a139:=Tryz.isAgg232
 z139:=Tryz.sizeOf232
 v139:=Tryz.zeroValue232
 g3:=by kernel_rfl
 g4:=by kernel_rfl }
open Go.RowKit Go.Lib in
def z6w:Go.Shelf.Ren:=⟨fun|260=>186|n=>n,fun|9=>9|21=>21|3=>3|4=>4|5=>5|119=>229|0=>0|46=>217|139=>232|138=>231|n=>n,fun|3=>0|4=>1|n=>n⟩
theorem zei:Go.Proofs.Lays.n260 Tryz.prog z6w:={
 mixed:=by kernel_rfl
 f260:=Tryz.func186.trans (congrArg some (by kernel_rfl))
 t0:=Tryz.underlying0
 a0:=Tryz.isAgg0
 z0:=Tryz.sizeOf0
 v0:=Tryz.zeroValue0
 t3:=Tryz.underlying3
 a3:=Tryz.isAgg3
 z3:=Tryz.sizeOf3
 v3:=Tryz.zeroValue3
 t4:=Tryz.underlying4
 a4:=Tryz.isAgg4
 z4:=Tryz.sizeOf4
 v4:=Tryz.zeroValue4
 t5:=Tryz.underlying5
 a5:=Tryz.isAgg5
 z5:=Tryz.sizeOf5
 v5:=Tryz.zeroValue5
 t9:=Tryz.underlying9
 a9:=Tryz.isAgg9
 z9:=Tryz.sizeOf9
 v9:=Tryz.zeroValue9
 t21:=Tryz.underlying21
 a21:=Tryz.isAgg21
 z21:=Tryz.sizeOf21
 v21:=Tryz.zeroValue21
 t46:=Tryz.underlying217
 a46:=Tryz.isAgg217
 z46:=Tryz.sizeOf217
 v46:=Tryz.zeroValue217
 t119:=Tryz.underlying229
 a119:=Tryz.isAgg229
 z119:=Tryz.sizeOf229
 t138:=Tryz.underlying231
 a138:=Tryz.isAgg231
 z138:=Tryz.sizeOf231
 v138:=Tryz.zeroValue231
 t139:=Tryz.underlying232
 a139:=Tryz.isAgg232
 z139:=Tryz.sizeOf232
 v139:=Tryz.zeroValue232
 g3:=by kernel_rfl
 g4:=by kernel_rfl }
open Go.RowKit Go.Lib in
open Go.RowKit Go.Lib in
theorem utf8_DecodeRuneInString (s:ByteArray) (w:World) (hT:Lib.Utf8Tabs 0 1 w) :
 Calls Tryz.prog 169 #[.string s] w fun e w'=>e=.returned (.tuple #[.int .i32 (Lib.decodeGo s).1,.int .i64 (Lib.decodeGo s).2])∧Below w.heap.size w w':=Any.utf8_DecodeRuneInString ztg s w hT
end Go.Proofs.YtonhfccmeammbaaGreatDoor
namespace Go.Proofs.YtonhfccmeammbaaGreatDoor
open Go.Ab Go.Rx
set_option maxHeartbeats 20000000
set_option maxRecDepth 100000
attribute [local irreducible] Run Ops Op1 z1x Val Tr z0m z1r NF Rel z83 z7w
structure Tab where
 o0:Obj
 o1:Obj
 ok:∀ w:World,w.heap[0]? =some o0→w.heap[1]? =some o1→Lib.Utf8Tabs 0 1 w
variable {τ:Tab}
abbrev z6t (τ:Tab) (e:Nat):List (Nm × Blk):=[((e,700),.glob 0 τ.o0),((e,701),.glob 1 τ.o1)]
structure HT (τ:Tab) (e:Nat) (H:Hf):Prop where
 a:H e 700=some (.glob 0 τ.o0)
 b:H e 701=some (.glob 1 τ.o1)
theorem HT.of {e:Nat} {H:Hf} {bs:List (Nm × Blk)} (h:∀ q∈bs++z6t τ e,H q.1.1 q.1.2=some q.2):HT τ e H :=
 ⟨h ((e,700),.glob 0 τ.o0) (by simp),h ((e,701),.glob 1 τ.o1) (by simp)⟩
theorem HT.upd {e d X:Nat} {H:Hf} {b:Blk} (h:HT τ e H) (h0:X≠700) (h1:X≠701):HT τ e (upd H (d,X) b):=by
 refine⟨?_,?_⟩
 · have:=z9l H (d,X) (e,700) b (fun q=>h0 (Prod.mk.inj q).2.symm)
   exact this.trans h.a
 · have:=z9l H (d,X) (e,701) b (fun q=>h1 (Prod.mk.inj q).2.symm)
   exact this.trans h.b
theorem bkT {e n:Nat} {tm:List (Nat × PV)} {hp:Hp} {up:Hf} (h:HT τ e up):BkE ⟨n,tm,hp,up⟩ (z6t τ (e+1)) :=
 z29 (m:=(e+1,700)) h.a (z29 (m:=(e+1,701)) h.b zfy)
theorem HT.push {e:Nat} {H:Hf} (hp:Hp) (h:HT τ e H):HT τ (e+1) (Ab.push hp H):=⟨h.a,h.b⟩
theorem zic (τ:Tab) (s:ByteArray) (e:Nat):z1r Tryz.prog 169 [S s] (z6t τ e) [] (.tup [I .i32 ((Lib.decodeGo s).1:Nat),I .i64 ((Lib.decodeGo s).2:Nat)]):=by
 refine zfr ⟨_,Tryz.func169,by kernel_rfl,by kernel_rfl⟩ fun H hH β own w vals hHR hA=>?_
 obtain⟨hl,ha⟩:=hA
 obtain⟨v,rfl⟩:∃ v,vals=[v]:=by
  match vals,hl with
  | [v],_=>exact⟨v,rfl⟩
 have hv:=PR.lit (ha 0 _ v rfl rfl)
 subst hv
 have h0:=hHR.blk (e,700) (.glob 0 τ.o0) (by
  have:=hH ((e,700),.glob 0 τ.o0) (by simp)
  cases e with
  | zero=>exact this
  | succ e=>simp only[z13];rw[this];rfl)
 have h1:=hHR.blk (e,701) (.glob 1 τ.o1) (by
  have:=hH ((e,701),.glob 1 τ.o1) (by simp)
  cases e with
  | zero=>exact this
  | succ e=>simp only[z13];rw[this];rfl)
 have hT:Lib.Utf8Tabs 0 1 w:=by
  refine τ.ok w ?_ ?_
  · generalize β (e,700)=x at h0
    cases h0 with|glob _ _ ho hg hd=>exact hg
  · generalize β (e,701)=x at h1
    cases h1 with|glob _ _ ho hg hd=>exact hg
 refine⟨_,utf8_DecodeRuneInString s w hT,fun w' own'=>?_⟩
 refine .tup _ _ rfl fun j p v hp hv=>?_
 match j,hp,hv with
 | 0,hp,hv=>simp at hp hv;subst hp;subst hv;exact PR.I _ _
 | 1,hp,hv=>simp at hp hv;subst hp;subst hv;exact PR.I _ _
abbrev pbx (s:ByteArray) (at_:Int) (a e:Int):Blk:=.box [S s,I .i64 at_,I .i64 a,I .i64 e]
section
variable {X:Nat} (hX0:X≠700) (hX1:X≠701)
theorem z9p (τ:Tab) (s:ByteArray) (i:Nat) (hi:i≤s.size) (a e:Int) (e0:Nat):z1r Tryz.prog 147 [.ptr (e0,X) 0] (((e0,X),pbx s i a e)::z6t τ (e0+1)) [] (I .i32 (nx (rst s i))):=by
 refine z2h fun H hH=>?_
 have hX:=hH ((e0,X),pbx s i a e) (by simp)
 have hT:HT τ (e0+1) H:=HT.of (bs:=[((e0,X),pbx s i a e)]) hH
 refine z0g Tryz.func147 (by kernel_rfl) rfl (by simp) ?_
 dsimp only[Tryz.f147]
 by_cases hlt:i<s.size
 · have hd:=zic τ (s.extract i s.size) (e0+1+1)
   rw[zw2 s i hlt] at hd
   rw[zqk hlt]
   repeat' (first|(apply z04;(refine z0l ?_))|(apply z05;(first|refine z0k ?_|apply z09))|(apply z06;(first|apply z07|apply z00|apply z08|apply z2z|refine z0h (fun _=>?_) (fun _=>?_)))|(apply z2v;(first|(apply z1l;refine z2n mix ?_)|refine z3h ?_| (apply z0u;(refine z0w (z18 (b:=pbx s i a e)) rfl (bkN hX) ?_))|(apply z0q;(refine z0w z1a rfl rfl ?_))|(apply z6e;(refine z0w (zbe rfl (by omega) (by omega)) rfl rfl ?_))|(apply z3n;(refine z0w (z5q rfl) rfl rfl ?_))|(apply z22;(refine zgc hd (by first|exact rfl|exact⟨_,rfl,rfl,rfl⟩) rfl (bkT hT) (by decide) ?_)))))
   all_goals try (exfalso;omega)
   exact z0c Tryz.func147 _ z1j ⟨rfl,rfl⟩
 · rw[z7j (by omega)]
   obtain rfl:i=s.size:=by omega
   repeat' (first|(apply z04;(refine z0l ?_))|(apply z05;(first|refine z0k ?_|apply z09))|(apply z06;(first|apply z07|apply z00|apply z08|apply z2z|refine z0h (fun _=>?_) (fun _=>?_)))|(apply z2v;(first|(apply z1l;refine z2n mix ?_)|refine z3h ?_| (apply z0u;(refine z0w (z18 (b:=pbx s s.size a e)) rfl (bkN hX) ?_))|(apply z0q;(refine z0w z1a rfl rfl ?_))|(apply z3n;(refine z0w (z5q rfl) rfl rfl ?_)))))
   all_goals try (exfalso;omega)
   exact z0c Tryz.func147 _ z1j ⟨rfl,rfl⟩
theorem zws (τ:Tab) (s:ByteArray) (i:Nat) (hi:i<s.size) (hs:s.size≤1000000) (a e:Int) (e0:Nat):z1r Tryz.prog 209 [.ptr (e0,X) 0] (((e0,X),pbx s i a e)::z6t τ (e0+1)) [((e0,X),pbx s ((i+(Utf8.decode s i).2:Nat):Int) a e)] (.tup []):=by
 refine z2h fun H hH=>?_
 have hX:=hH ((e0,X),pbx s i a e) (by simp)
 have hT:HT τ (e0+1) H:=HT.of (bs:=[((e0,X),pbx s i a e)]) hH
 have hw:=ze3 s i hi
 refine z0g Tryz.func209 (by kernel_rfl) rfl (by simp) ?_
 dsimp only[Tryz.f209]
 have hd:=zic τ (s.extract i s.size) (e0+1+1)
 rw[zw2 s i hi] at hd
 repeat' (first|(apply z04;(first|refine z0l ?_| (apply z0a;(refine z02 (z18 (b:=pbx s i a e)) rfl (bkN hX) ?_))|(apply z0d;(refine z02 z1a rfl rfl ?_))|(apply z0z;(refine z02 (z14 z1p) rfl rfl ?_))|(apply z0f;(refine z68 (raw:=pbx s i a e) (raw':=pbx s (i+(Utf8.decode s i).2) a e) rfl hX rfl rfl rfl rfl rfl rfl ?_))))|(apply z05;(first|refine z0k ?_|apply z09))|(apply z06;(first|apply z07|apply z00|apply z2z))|(apply z2v;(first|(apply z1l;refine z2n mix ?_)|refine z3h ?_| (apply z0u;(refine z0w (z18 (b:=pbx s i a e)) rfl (bkN hX) ?_))|(apply z0q;(refine z0w z1a rfl rfl ?_))|(apply z6e;(refine z0w (zbe rfl (by omega) (by omega)) rfl rfl ?_))|(apply z22;(refine zgc hd (by first|exact rfl|exact⟨_,rfl,rfl,rfl⟩) rfl (bkT hT) (by decide) ?_)))))
 all_goals try (exfalso;omega)
 rw[← Int.natCast_add]
 exact zfm Tryz.func209 _ (z5m rfl) ⟨rfl,rfl⟩
end
end Go.Proofs.YtonhfccmeammbaaGreatDoor
namespace Go.Proofs.YtonhfccmeammbaaGreatDoor
open Go.Ab Go.Rx
set_option maxHeartbeats 20000000
set_option maxRecDepth 100000
attribute [local irreducible] Run Ops Op1 z1x Val Tr z0m z1r NF Rel z83 z7w
theorem zcw {g:FuncId} {ps:List PV} {p:PV} (hp:Plain Tryz.prog g) (h:∀ β own w vals,z7b β w own ps vals→∃ v,Calls Tryz.prog g vals.toArray w (fun e w'=>e=.returned v∧w'=w)∧∀ w' own',PR β w' own' p v):z0m Tryz.prog g ps p:=by
 have:=zfr (bs:=[]) hp fun H hH β own w vals hHR hA=>by
  obtain⟨v,hc,hv⟩:=h β own w vals hA
  exact⟨v,hc.mono fun e w' ⟨h1,h2⟩=>⟨h1,by subst h2;exact RowKit.Below.refl _ _⟩,hv⟩
 unfold z0m
 intro H
 unfold z1r at this
 have h2:=this H (by simp)
 exact h2
theorem zl6 (s:ByteArray) (c:Int):z0m Tryz.prog 214 [S s,I .u8 c] (I .i64 (Lib.indexByte s.data.toList c.toNat.toUInt8)):=by
 refine zcw ⟨_,Tryz.func214,by kernel_rfl,by kernel_rfl⟩ fun β own w vals hA=>?_
 obtain⟨hl,ha⟩:=hA
 obtain⟨v,u,rfl⟩:∃ v u,vals=[v,u]:=by
  match vals,hl with
  | [v,u],_=>exact⟨v,u,rfl⟩
 have hv:=PR.lit (ha 0 _ v rfl rfl)
 have hu:=PR.lit (ha 1 _ u rfl rfl)
 subst hv hu
 exact⟨_,strings_IndexByte s c w,fun w' own'=>PR.I _ _⟩
theorem zgy (r:Int):z0m Tryz.prog 215 [I .i32 r] (B (Lib.validRune r)):=by
 refine zcw ⟨_,Tryz.func215,by kernel_rfl,by kernel_rfl⟩ fun β own w vals hA=>?_
 obtain⟨hl,ha⟩:=hA
 obtain⟨v,rfl⟩:∃ v,vals=[v]:=by
  match vals,hl with
  | [v],_=>exact⟨v,rfl⟩
 have hv:=PR.lit (ha 0 _ v rfl rfl)
 subst hv
 exact⟨_,utf8_ValidRune r w,fun w' own'=>PR.B _⟩
def spB (l:List Int):ByteArray:=⟨(l.map fun c=>UInt8.ofNat c.toNat).toArray⟩
theorem zlu:∀ (l:List UInt8) (c:UInt8),(∀ b∈l,b≠c)→Lib.indexByte l c=-1
 | [],c,_=>rfl
 | b::l,c,h=>by
  have hb:(b == c)=false:=by simpa using h b (by simp)
  rw[Lib.indexByte,hb,zlu l c fun x hx=>h x (by simp[hx])];rfl
structure Sp (sp:List Int):Prop where
 size:5≤(spB sp).size∧(spB sp).size≤12
 asc:∀ b∈(spB sp).data.toList,b.toNat<128
 idx:∀ c:Fin 128,decide (0≤Lib.indexByte (spB sp).data.toList (UInt8.ofNat c.val))=sp.contains (c.val:Int)
 rng:∀ c∈sp,0≤c∧c<128
theorem zzh:Sp spA:=⟨by decide,by decide,by decide +kernel,by decide⟩
def ixR (sp:List Int) (c:Int):Int:=if 0≤c∧c<128 then Lib.indexByte (spB sp).data.toList c.toNat.toUInt8 else -1
theorem zxg {sp:List Int} (h:Sp sp) (c:Int):decide (0≤ixR sp c)=sp.contains c:=by
 rw[ixR]
 by_cases hc:0≤c∧c<128
 · rw[zAy hc]
   have:=h.idx ⟨c.toNat,by omega⟩
   rw[show (((⟨c.toNat,by omega⟩:Fin 128).val:Nat):Int)=c by simp;omega] at this
   exact this
 · rw[zAx hc]
   symm
   rw[show decide ((0:Int)≤-1)=false by decide,Bool.eq_false_iff]
   intro h2
   exact hc (h.rng c (by simpa using h2))
theorem zr6 {sp:List Int} (h:Sp sp) {i:Nat} (hi:i<(spB sp).size):∃ b,(spB sp)[i]? =some b∧b.toNat<128:=by
 refine⟨(spB sp)[i],getElem?_pos _ i hi,h.asc _ ?_⟩
 exact Array.getElem_mem_toList (by exact hi)
theorem znd {c:Int} (h:128≤c) (hv:Utf8.valid c=true):∃ b,2≤(Utf8.encode c).size∧(Utf8.encode c).size≤4∧(Utf8.encode c)[(Utf8.encode c).size-1]? =some b∧128≤b.toNat:=by
 have h2:c.toNat≤1114111:=by
  have:=zi3 (c:=c.toNat) (by rw[show ((c.toNat:Nat):Int)=c by omega];exact hv)
  exact this
 obtain⟨n,rfl⟩:∃ n:Nat,c=n:=⟨c.toNat,by omega⟩
 unfold Utf8.encode
 simp only[hv,if_true,zA9]
 have hm:∀ q:Nat,(UInt8.ofNat (128+q % 64)).toNat=128+q % 64:=fun q=>by simp;omega
 have h3:128≤n:=by omega
 rw[zAx (show ¬ n<128 by omega)]
 split
 · exact⟨UInt8.ofNat (128+n % 64),(show 2≤2 by decide),(show 2≤4 by decide),rfl,by rw[hm];omega⟩
 split
 · exact⟨UInt8.ofNat (128+n % 64),(show 2≤3 by decide),(show 3≤4 by decide),rfl,by rw[hm];omega⟩
 · exact⟨UInt8.ofNat (128+n % 64),(show 2≤4 by decide),(show 4≤4 by decide),rfl,by rw[hm];omega⟩
theorem zoj (c:Int):Lib.validRune c=Utf8.valid c:=by
 unfold Lib.validRune Utf8.valid
 rw[Bool.eq_iff_iff,zA3,zAt,zA7,zA7,zA3,zA3,zA3,zA3]
 omega
theorem zkx {sp:List Int} (hsp:Sp sp) (c:Int) (hc0:-1≤c) (hc1:c≤1114111):z0m Tryz.prog 208 [S (spB sp),I .i32 c] (I .i64 (ixR sp c)):=by
 refine z10 fun H=>?_
 refine z0g Tryz.func208 (by kernel_rfl) rfl (by simp) ?_
 dsimp only[Tryz.f208]
 have hsz:=hsp.size
 by_cases h1:0≤c∧c<128
 · have hi:=zl6 (spB sp) c
   rw[ixR,zAy h1]
   have hw8:IntKind.u8.wrap c=c:=by simp[IntKind.wrap,IntKind.bits,IntKind.signed];omega
   repeat' (first|(apply z04;(first|refine z0l ?_| (apply z0j;(refine z2s hi ?_))|(apply zc9;(refine z02 (zw4 rfl rfl hw8) rfl rfl ?_))))|(apply z05;(first|refine z0k ?_|apply z09|refine z1m ?_| refine z1t (fun _=>?_) (fun _=>?_)))|(apply z06;(first|apply z07|apply z00|refine z1f ?_| apply z01|refine z0h (fun _=>?_) (fun _=>?_))))
   all_goals try (exfalso;omega)
   exact z0c Tryz.func208 _ z1j ⟨rfl,rfl⟩
 rw[ixR,zAx h1]
 by_cases h2:c=65533
 · subst h2
   repeat' (first|(apply z04;(first|refine z0l ?_| refine zc6 rfl rfl rfl (by decide) ?_))|(apply z05;(first|refine z0k ?_|apply z09))|(apply z06;(first|apply z07|apply z00|refine z1b rfl ?_|refine z1f ?_| apply z01)))
   all_goals try (exfalso;omega)
   refine z0t ?_
   refine z0e (z1v (fun q:Nat=>⟨187,[(175,.ptr (0,175) 0)],[(175,.siter (spB sp) q)],H⟩) (fun q=>True) (fun q=>(spB sp).size-q) ?_ 0 trivial) rfl rfl
   intro q _ ih
   by_cases hlt:q<(spB sp).size
   · have hda:=decode_ascii (spB sp) q hlt (hsp.asc _ (Array.getElem_mem_toList (by exact hlt)))
     have hb:=hsp.asc _ (Array.getElem_mem_toList (xs:=(spB sp).data) (by exact hlt))
     have hne:((Utf8.decode (spB sp) q).1:Int)≠65533:=by
      rw[hda]
      have:((spB sp)[q]'hlt).toNat<128:=hb
      simp only;omega
     have hw:=ze3 (spB sp) q hlt
     repeat' (first|(apply z04;(first|refine z0l ?_| refine z3z hlt rfl rfl (by decide) ?_))|(apply z05;(first|refine z0k ?_|apply z09))|(apply z06;(first|apply z07|apply z00|refine z1b rfl ?_|apply z08|apply z01|apply z03|refine z0h (fun _=>?_) (fun _=>?_))))
     all_goals try (exfalso;omega)
     exact z0e (ih _ trivial (by omega)) rfl rfl
   · repeat' (first|(apply z04;(first|refine z0l ?_| refine z3w hlt rfl rfl (by decide) ?_))|(apply z05;(first|refine z0k ?_|apply z09))|(apply z06;(first|apply z07|apply z00|refine z1f ?_| refine z0o ?_)))
     all_goals try (exfalso;omega)
     exact z0c Tryz.func208 _ z1j ⟨rfl,rfl⟩
 have hv:=zgy c
 rw[zoj] at hv
 cases hvv:Utf8.valid c with
 | false =>
  rw[hvv] at hv
  repeat' (first|(apply z04;(first|refine z0l ?_| (apply z0j;(refine z2s hv ?_))))|(apply z05;(first|refine z0k ?_|apply z09|refine z1m ?_| refine z1t (fun _=>?_) (fun _=>?_)))|(apply z06;(first|apply z07|apply z00|refine z1b rfl ?_|refine z1f ?_| apply z01|refine z0h (fun _=>?_) (fun _=>?_))))
  all_goals try (exfalso;omega)
  all_goals exact z0c Tryz.func208 _ z1j ⟨rfl,rfl⟩
 | true =>
  rw[hvv] at hv
  have hc:128≤c:=by
   false_or_by_contra
   have:c=-1:=by omega
   subst this;revert hvv;decide
  obtain⟨b,e1,e2,e3,e4⟩:=znd hc hvv
  have e3':(Utf8.encode c)[(((Utf8.encode c).size:Int)-1).toNat]? =some b:=by rw[← e3];congr 1;omega
  obtain⟨b0,f1,f2⟩:=zr6 hsp (i:=(Utf8.encode c).size-1) (by omega)
  have f1':(spB sp)[(((Utf8.encode c).size:Int)-1).toNat]? =some b0:=by rw[← f1];congr 1;omega
  have hi:=zl6 ((spB sp).extract (((Utf8.encode c).size:Int)-1+1).toNat (spB sp).size) b.toNat
  rw[zlu _ _ (fun x hx=>by
   have hm:x∈(spB sp).data.toList:=by
    rw[ByteArray.data_extract,Array.toList_extract] at hx
    exact List.mem_of_mem_drop (List.mem_of_mem_take hx)
   have:=hsp.asc x hm
   intro he
   subst he
   simp at e4 this;omega)] at hi
  repeat' (first|(apply z04;(first|refine z0l ?_| (apply z0z;(refine z02 (z2q z1p) rfl rfl ?_))|(apply z0x;(refine z02 (z5q rfl) rfl rfl ?_))|(apply z0j;(refine z2s hv ?_))|(apply zc9;(refine z02 (z9q rfl rfl) rfl rfl ?_))))|(apply z05;(first|refine z0k ?_|apply z09|refine z1m ?_| refine z1t (fun _=>?_) (fun _=>?_)))|(apply z06;(first|apply z07|apply z00|refine z1f ?_| apply z01|apply zmr|refine z0h (fun _=>?_) (fun _=>?_))))
  all_goals try (exfalso;omega)
  refine z0t ?_
  refine z3i ?_
  repeat' (first|(apply z04;(first|refine z0l ?_| (apply z0x;(refine z02 (z5q rfl) rfl rfl ?_))))|(apply z05;(first|refine z0k ?_|apply z09))|(apply z06;(first|apply z07|apply z00|refine z1b rfl ?_|apply z08|apply z01|apply zmr|apply z2z|refine z0h (fun _=>?_) (fun _=>?_)| refine z3o rfl (fun _=>?_) (fun _=>?_)|refine z0o ?_))|(apply z2v;(first|(apply z1l;refine z2n mix ?_)|refine z3h ?_| (apply zme;(first|refine z0w (z69 rfl (by omega) e3') rfl rfl ?_| refine z0w (z69 rfl (by omega) f1') rfl rfl ?_))|(apply z3y;(refine z0w (z14 z1p) rfl rfl ?_))|(apply z6e;(refine z0w (zbe rfl (by omega) (by omega)) rfl rfl ?_))|(apply z22;(refine z5f hi ?_)))))
  all_goals try (exfalso;omega)
  exact z0c Tryz.func208 _ z1j ⟨rfl,rfl⟩
theorem zci {sp:List Int} (hsp:Sp sp) (c:Int) (hc0:-1≤c) (hc1:c≤1114111):z0m Tryz.prog 197 [S (spB sp),I .i32 c] (B (sp.contains c)):=by
 refine z10 fun H=>?_
 refine z0g Tryz.func197 (by kernel_rfl) rfl (by simp) ?_
 dsimp only[Tryz.f197]
 have h:=zkx hsp c hc0 hc1
 rw[← zxg hsp]
 repeat' (first|(apply z04;(first|refine z0l ?_| (apply z0j;(refine z2s h ?_))))|(apply z05;(first|refine z0k ?_|apply z09))|(apply z06;(first|apply z07|apply z00)))
 all_goals try (exfalso;omega)
 exact z0c Tryz.func197 _ z1j ⟨rfl,rfl⟩
theorem zqw (s:ByteArray) (i:Nat):-1≤nx (rst s i)∧nx (rst s i)≤1114111:=by
 by_cases hi:i<s.size
 · rw[zqk hi];have:=zqf s i;omega
 · rw[z7j (by omega)];simp[nx]
section
variable {X:Nat} (hX0:X≠700) (hX1:X≠701) (τ:Tab) (s:ByteArray) (hs:s.size≤1000000)
include hX0 hX1 hs
end
abbrev eX (e:Rx):D:=.agg (rxc e)
theorem zvw (a b:Int):z0m Tryz.prog 195 [I .i32 a,I .i32 b] (.d (eX (Rx.one a b))):=by
 refine z10 fun H=>?_
 refine z0g Tryz.func195 (by kernel_rfl) rfl (by simp) ?_
 dsimp only[Tryz.f195]
 repeat' (first|(apply z04;(first|refine z0l ?_| (apply z0f;(refine z2d ?_))|(apply z0i;(refine z0b z1e ?_))|(apply z1i;(refine z2x ?_))|(apply z3t;(refine z3s rfl ?_))))|(apply z05;(first|refine z0k ?_|apply z09))|(apply z06;(first|apply z07|apply z00)))
 all_goals try (exfalso;omega)
 exact z0c Tryz.func195 _ (z1s rfl rfl rfl rfl rfl rfl) ⟨rfl,rfl⟩
theorem zqg (a b:Int):eX (Rx.one a b)=.agg [z3c 1,z3c 0,z3c 0,rgs [(a,b)],.slice []]:=rfl
theorem zcr (op mn mx:Int) (rs:List Rg) (ks:List Rx):eX (.mk op mn mx rs ks)=.agg (rx5 op mn mx rs ks):=by rw[eX,z4o]
end Go.Proofs.YtonhfccmeammbaaGreatDoor
