/- A part of the proof: Shg to GE. -/
import Derived.Test.YtmcggompdmngmaaGreatDoorYc
import Derived.Shelf.Small.Utf8
import Derived.Shelf.Small.Strs
import Derived.Shelf.Strings.Search1
import Derived.Shelf.Unicode.Decode
import Derived.Shelf.Unicode.DecodeAny
import Derived.Test.YtmcggompdmngmaaGreatDoorProg
import Derived.Test.YtmcggompdmngmaaGreatDoorYp
import Derived.Test.YtmcggompdmngmaaGreatDoorYx
set_option linter.all false
namespace Go.Proofs.YtmcggompdmngmaaGreatDoor
open Go.Proofs
open Go.Shelf
def zk8:Go.Shelf.Ren:=⟨fun|119=>223|n=>n,fun|21=>21|4=>4|n=>n,fun|n=>n⟩
theorem y5m:Go.Proofs.Lays.n119 Tryz.prog zk8:={
 mixed:=by kernel_rfl
 f119:=Tryz.func223.trans (congrArg some (by kernel_rfl))
 t4:=Tryz.underlying4
 a4:=Tryz.isAgg4
 z4:=Tryz.sizeOf4
 v4:=Tryz.zeroValue4
 t21:=Tryz.underlying21
 a21:=Tryz.isAgg21
 z21:=Tryz.sizeOf21
 v21:=Tryz.zeroValue21 }
theorem utf8_ValidRune (r:Int) (w:World) :
 Calls Tryz.prog 223 #[.int .i32 r] w fun e w'=>e=.returned (.bool (Lib.validRune r))∧w'=w:=Any.utf8_ValidRune y5m r w
def zk6:Go.Shelf.Ren:=⟨fun|137=>222|217=>227|266=>236|n=>n,fun|9=>9|5=>5|3=>3|n=>n,fun|n=>n⟩
theorem y5n:Go.Proofs.Lays.n137 Tryz.prog zk6:={
 mixed:=by kernel_rfl
 f137:=Tryz.func222.trans (congrArg some (by kernel_rfl))
 f217:=Tryz.func227.trans (congrArg some (by kernel_rfl))
 f266:=Tryz.func236.trans (congrArg some (by kernel_rfl))
 t3:=Tryz.underlying3
 a3:=Tryz.isAgg3
 z3:=Tryz.sizeOf3
 v3:=Tryz.zeroValue3
 t5:=Tryz.underlying5
 a5:=Tryz.isAgg5
 z5:=Tryz.sizeOf5
 v5:=Tryz.zeroValue5
 t9:=Tryz.underlying9
 a9:=Tryz.isAgg9
 z9:=Tryz.sizeOf9
 v9:=Tryz.zeroValue9 }
open Go.RowKit in
theorem strings_IndexByte (s:ByteArray) (c:Int) (w:World) :
 Calls Tryz.prog 222 #[.string s,.int .u8 c] w fun e w'=>e=.returned (.int .i64 (Lib.indexByte s.data.toList c.toNat.toUInt8))∧w'=w:=Any.strings_IndexByte y5n s c w
def zks:Go.Shelf.Ren:=⟨fun|197=>165|260=>198|n=>n,fun|9=>9|21=>21|3=>3|4=>4|5=>5|105=>239|119=>273|0=>0|46=>169|139=>276|138=>275|n=>n,fun|3=>1|4=>2|n=>n⟩
theorem y1z:Go.Proofs.Lays.n197 Tryz.prog zks:={
 mixed:=by kernel_rfl
 f197:=Tryz.func165.trans (congrArg some (by kernel_rfl))
 f260:=Tryz.func198.trans (congrArg some (by kernel_rfl))
 t0:=Tryz.underlying0
 a0:=Tryz.isAgg0
 z0:=Tryz.sizeOf0
 v0:=Tryz.zeroValue0
 t3:=Tryz.underlying3
 a3:=Tryz.isAgg3
 z3:=Tryz.sizeOf3
 v3:=Tryz.zeroValue3
 t4:=Tryz.underlying4
 a4:=Tryz.isAgg4
 z4:=Tryz.sizeOf4
 v4:=Tryz.zeroValue4
 t5:=Tryz.underlying5
 a5:=Tryz.isAgg5
 z5:=Tryz.sizeOf5
 v5:=Tryz.zeroValue5
 t9:=Tryz.underlying9
 a9:=Tryz.isAgg9
 z9:=Tryz.sizeOf9
 v9:=Tryz.zeroValue9
 t21:=Tryz.underlying21
 a21:=Tryz.isAgg21
 z21:=Tryz.sizeOf21
 v21:=Tryz.zeroValue21
 t46:=Tryz.underlying169
 a46:=Tryz.isAgg169
 z46:=Tryz.sizeOf169
 v46:=Tryz.zeroValue169
 t105:=Tryz.underlying239
 a105:=Tryz.isAgg239
 z105:=Tryz.sizeOf239
 v105:=Tryz.zeroValue239
 t119:=Tryz.underlying273
 a119:=Tryz.isAgg273
 z119:=Tryz.sizeOf273
 t138:=Tryz.underlying275
 a138:=Tryz.isAgg275
 z138:=Tryz.sizeOf275
 v138:=Tryz.zeroValue275
 t139:=Tryz.underlying276
 a139:=Tryz.isAgg276
 z139:=Tryz.sizeOf276
 v139:=Tryz.zeroValue276
 g3:=by kernel_rfl
 g4:=by kernel_rfl }
open Go.RowKit Go.Lib in
def z6j:Go.Shelf.Ren:=⟨fun|260=>198|n=>n,fun|9=>9|21=>21|3=>3|4=>4|5=>5|119=>273|0=>0|46=>169|139=>276|138=>275|n=>n,fun|3=>1|4=>2|n=>n⟩
theorem zgg:Go.Proofs.Lays.n260 Tryz.prog z6j:={
 mixed:=by kernel_rfl
 f260:=Tryz.func198.trans (congrArg some (by kernel_rfl))
 t0:=Tryz.underlying0
 a0:=Tryz.isAgg0
 z0:=Tryz.sizeOf0
 v0:=Tryz.zeroValue0
 t3:=Tryz.underlying3
 a3:=Tryz.isAgg3
 z3:=Tryz.sizeOf3
 v3:=Tryz.zeroValue3
 t4:=Tryz.underlying4
 a4:=Tryz.isAgg4
 z4:=Tryz.sizeOf4
 v4:=Tryz.zeroValue4
 t5:=Tryz.underlying5
 a5:=Tryz.isAgg5
 z5:=Tryz.sizeOf5
 v5:=Tryz.zeroValue5
 t9:=Tryz.underlying9
 a9:=Tryz.isAgg9
 z9:=Tryz.sizeOf9
 v9:=Tryz.zeroValue9
 t21:=Tryz.underlying21
 a21:=Tryz.isAgg21
 z21:=Tryz.sizeOf21
 v21:=Tryz.zeroValue21
 t46:=Tryz.underlying169
 a46:=Tryz.isAgg169
 z46:=Tryz.sizeOf169
 v46:=Tryz.zeroValue169
 t119:=Tryz.underlying273
 a119:=Tryz.isAgg273
 z119:=Tryz.sizeOf273
 t138:=Tryz.underlying275
 a138:=Tryz.isAgg275
 z138:=Tryz.sizeOf275
 v138:=Tryz.zeroValue275
 t139:=Tryz.underlying276
 a139:=Tryz.isAgg276
 z139:=Tryz.sizeOf276
 v139:=Tryz.zeroValue276
 g3:=by kernel_rfl
 g4:=by kernel_rfl }
open Go.RowKit Go.Lib in
open Go.RowKit Go.Lib in
theorem utf8_DecodeRuneInString (s:ByteArray) (w:World) (hT:Lib.Utf8Tabs 1 2 w) :
 Calls Tryz.prog 165 #[.string s] w fun e w'=>e=.returned (.tuple #[.int .i32 (Lib.decodeGo s).1,.int .i64 (Lib.decodeGo s).2])∧Below w.heap.size w w':=Any.utf8_DecodeRuneInString y1z s w hT
end Go.Proofs.YtmcggompdmngmaaGreatDoor
namespace Go.Proofs.YtmcggompdmngmaaGreatDoor
open Go.Ab Go.Rx
set_option maxHeartbeats 20000000
set_option maxRecDepth 100000
attribute [local irreducible] Run Ops Op1 z0u Val Tr z09 z0q NF Rel z1v z1u
structure Tab where
 o0:Obj
 o1:Obj
 ok:∀ w:World,w.heap[1]? =some o0→w.heap[2]? =some o1→Lib.Utf8Tabs 1 2 w
variable {τ:Tab}
abbrev zpf (τ:Tab) (e:Nat):List (Nm × Blk):=[((e,700),.glob 1 τ.o0),((e,701),.glob 2 τ.o1)]
structure HT (τ:Tab) (e:Nat) (H:Hf):Prop where
 a:H e 700=some (.glob 1 τ.o0)
 b:H e 701=some (.glob 2 τ.o1)
theorem HT.of {e:Nat} {H:Hf} {bs:List (Nm × Blk)} (h:∀ q∈bs++zpf τ e,H q.1.1 q.1.2=some q.2):HT τ e H :=
 ⟨h ((e,700),.glob 1 τ.o0) (by simp),h ((e,701),.glob 2 τ.o1) (by simp)⟩
theorem HT.upd {e d X:Nat} {H:Hf} {b:Blk} (h:HT τ e H) (h0:X≠700) (h1:X≠701):HT τ e (upd H (d,X) b):=by
 refine⟨?_,?_⟩
 · have:=zdz H (d,X) (e,700) b (fun q=>h0 (Prod.mk.inj q).2.symm)
   exact this.trans h.a
 · have:=zdz H (d,X) (e,701) b (fun q=>h1 (Prod.mk.inj q).2.symm)
   exact this.trans h.b
theorem bkT {e n:Nat} {tm:List (Nat × PV)} {hp:Hp} {up:Hf} (h:HT τ e up):BkE ⟨n,tm,hp,up⟩ (zpf τ (e+1)) :=
 z1m (m:=(e+1,700)) h.a (z1m (m:=(e+1,701)) h.b z5c)
theorem HT.push {e:Nat} {H:Hf} (hp:Hp) (h:HT τ e H):HT τ (e+1) (Ab.push hp H):=⟨h.a,h.b⟩
theorem zn3 (τ:Tab) (s:ByteArray) (e:Nat):z0q Tryz.prog 165 [S s] (zpf τ e) [] (.tup [I .i32 ((Lib.decodeGo s).1:Nat),I .i64 ((Lib.decodeGo s).2:Nat)]):=by
 refine zio ⟨_,Tryz.func165,by kernel_rfl,by kernel_rfl⟩ fun H hH β own w vals hHR hA=>?_
 obtain⟨hl,ha⟩:=hA
 obtain⟨v,rfl⟩:∃ v,vals=[v]:=by
  match vals,hl with
  | [v],_=>exact⟨v,rfl⟩
 have hv:=PR.lit (ha 0 _ v rfl rfl)
 subst hv
 have h0:=hHR.blk (e,700) (.glob 1 τ.o0) (by
  have:=hH ((e,700),.glob 1 τ.o0) (by simp)
  cases e with
  | zero=>exact this
  | succ e=>simp only[z0a];rw[this];rfl)
 have h1:=hHR.blk (e,701) (.glob 2 τ.o1) (by
  have:=hH ((e,701),.glob 2 τ.o1) (by simp)
  cases e with
  | zero=>exact this
  | succ e=>simp only[z0a];rw[this];rfl)
 have hT:Lib.Utf8Tabs 1 2 w:=by
  refine τ.ok w ?_ ?_
  · generalize β (e,700)=x at h0
    cases h0 with|glob _ _ ho hg hd=>exact hg
  · generalize β (e,701)=x at h1
    cases h1 with|glob _ _ ho hg hd=>exact hg
 refine⟨_,utf8_DecodeRuneInString s w hT,fun w' own'=>?_⟩
 refine .tup _ _ rfl fun j p v hp hv=>?_
 match j,hp,hv with
 | 0,hp,hv=>simp at hp hv;subst hp;subst hv;exact PR.I _ _
 | 1,hp,hv=>simp at hp hv;subst hp;subst hv;exact PR.I _ _
abbrev pbx (s:ByteArray) (at_:Int) (a e:Int):Blk:=.box [S s,I .i64 at_,I .i64 a,I .i64 e]
section
variable {X:Nat} (hX0:X≠700) (hX1:X≠701)
theorem z8g (τ:Tab) (s:ByteArray) (i:Nat) (hi:i≤s.size) (a e:Int) (e0:Nat):z0q Tryz.prog 129 [.ptr (e0,X) 0] (((e0,X),pbx s i a e)::zpf τ (e0+1)) [] (I .i32 (nx (rst s i))):=by
 refine z0v fun H hH=>?_
 have hX:=hH ((e0,X),pbx s i a e) (by simp)
 have hT:HT τ (e0+1) H:=HT.of (bs:=[((e0,X),pbx s i a e)]) hH
 refine z06 Tryz.func129 (by kernel_rfl) rfl (by simp) ?_
 dsimp only[Tryz.f129]
 by_cases hlt:i<s.size
 · have hd:=zn3 τ (s.extract i s.size) (e0+1+1)
   rw[y80 s i hlt] at hd
   rw[zzj hlt]
   repeat' (first|(apply z0c;(refine z0f (z42 (b:=pbx s i a e) rfl rfl rfl rfl) rfl (bkN hX) ?_))|(apply z4o;(refine z0f (zd9 rfl (by omega) (by omega)) rfl rfl ?_))|(apply z0m;(refine zcz hd (by first|exact rfl|exact⟨_,rfl,rfl,rfl⟩) rfl (bkT hT) (by decide) ?_))|refine z01 ?_|refine fk (fun _=>?_) (fun _=>?_))
   all_goals try (exfalso;omega)
   exact z02 Tryz.func129 _ z1d ⟨rfl,rfl⟩
 · rw[z3g (by omega)]
   obtain rfl:i=s.size:=by omega
   repeat' (first|(apply z0c;(refine z0f (z42 (b:=pbx s s.size a e) rfl rfl rfl rfl) rfl (bkN hX) ?_))|refine z01 ?_|refine fk (fun _=>?_) (fun _=>?_))
   all_goals try (exfalso;omega)
   exact z02 Tryz.func129 _ z1d ⟨rfl,rfl⟩
theorem y8a (τ:Tab) (s:ByteArray) (i:Nat) (hi:i<s.size) (hs:s.size≤1000000) (a e:Int) (e0:Nat):z0q Tryz.prog 218 [.ptr (e0,X) 0] (((e0,X),pbx s i a e)::zpf τ (e0+1)) [((e0,X),pbx s ((i+(Utf8.decode s i).2:Nat):Int) a e)] (.tup []):=by
 refine z0v fun H hH=>?_
 have hX:=hH ((e0,X),pbx s i a e) (by simp)
 have hT:HT τ (e0+1) H:=HT.of (bs:=[((e0,X),pbx s i a e)]) hH
 have hw:=z8a s i hi
 refine z06 Tryz.func218 (by kernel_rfl) rfl (by simp) ?_
 dsimp only[Tryz.f218]
 have hd:=zn3 τ (s.extract i s.size) (e0+1+1)
 rw[y80 s i hi] at hd
 repeat' (first|(apply z13;(refine z08 (z42 (b:=pbx s i a e) rfl rfl rfl rfl) rfl (bkN hX) ?_))|(apply z0c;(refine z0f (z42 (b:=pbx s i a e) rfl rfl rfl rfl) rfl (bkN hX) ?_))|(apply z4o;(refine z0f (zd9 rfl (by omega) (by omega)) rfl rfl ?_))|(apply z0m;(refine zcz hd (by first|exact rfl|exact⟨_,rfl,rfl,rfl⟩) rfl (bkT hT) (by decide) ?_))|(apply z1q;(refine zjw (raw:=pbx s i a e) (raw':=pbx s (i+(Utf8.decode s i).2) a e) hX ?_))|refine z01 ?_|fail)
 all_goals try (exfalso;omega)
 rw[← Int.natCast_add]
 exact z8e Tryz.func218 _ (z1o rfl) ⟨rfl,rfl⟩
end
end Go.Proofs.YtmcggompdmngmaaGreatDoor
namespace Go.Proofs.YtmcggompdmngmaaGreatDoor
open Go.Ab Go.Rx
set_option maxHeartbeats 20000000
set_option maxRecDepth 100000
attribute [local irreducible] Run Ops Op1 z0u Val Tr z09 z0q NF Rel z1v z1u
theorem z7x {g:FuncId} {ps:List PV} {p:PV} (hp:Plain Tryz.prog g) (h:∀ β own w vals,z6i β w own ps vals→∃ v,Calls Tryz.prog g vals.toArray w (fun e w'=>e=.returned v∧w'=w)∧∀ w' own',PR β w' own' p v):z09 Tryz.prog g ps p:=by
 have:=zio (bs:=[]) hp fun H hH β own w vals hHR hA=>by
  obtain⟨v,hc,hv⟩:=h β own w vals hA
  exact⟨v,hc.mono fun e w' ⟨h1,h2⟩=>⟨h1,by subst h2;exact RowKit.Below.refl _ _⟩,hv⟩
 unfold z09
 intro H
 unfold z0q at this
 have h2:=this H (by simp)
 exact h2
theorem zr7 (s:ByteArray) (c:Int):z09 Tryz.prog 222 [S s,I .u8 c] (I .i64 (Lib.indexByte s.data.toList c.toNat.toUInt8)):=by
 refine z7x ⟨_,Tryz.func222,by kernel_rfl,by kernel_rfl⟩ fun β own w vals hA=>?_
 obtain⟨hl,ha⟩:=hA
 obtain⟨v,u,rfl⟩:∃ v u,vals=[v,u]:=by
  match vals,hl with
  | [v,u],_=>exact⟨v,u,rfl⟩
 have hv:=PR.lit (ha 0 _ v rfl rfl)
 have hu:=PR.lit (ha 1 _ u rfl rfl)
 subst hv hu
 exact⟨_,strings_IndexByte s c w,fun w' own'=>PR.I _ _⟩
theorem zl4 (r:Int):z09 Tryz.prog 223 [I .i32 r] (B (Lib.validRune r)):=by
 refine z7x ⟨_,Tryz.func223,by kernel_rfl,by kernel_rfl⟩ fun β own w vals hA=>?_
 obtain⟨hl,ha⟩:=hA
 obtain⟨v,rfl⟩:∃ v,vals=[v]:=by
  match vals,hl with
  | [v],_=>exact⟨v,rfl⟩
 have hv:=PR.lit (ha 0 _ v rfl rfl)
 subst hv
 exact⟨_,utf8_ValidRune r w,fun w' own'=>PR.B _⟩
def spB (l:List Int):ByteArray:=⟨(l.map fun c=>UInt8.ofNat c.toNat).toArray⟩
theorem zsn:∀ (l:List UInt8) (c:UInt8),(∀ b∈l,b≠c)→Lib.indexByte l c=-1
 | [],c,_=>rfl
 | b::l,c,h=>by
  have hb:(b == c)=false:=by simpa using h b (by simp)
  rw[Lib.indexByte,hb,zsn l c fun x hx=>h x (by simp[hx])];rfl
structure Sp (sp:List Int):Prop where
 size:5≤(spB sp).size∧(spB sp).size≤12
 asc:∀ b∈(spB sp).data.toList,b.toNat<128
 idx:∀ c:Fin 128,decide (0≤Lib.indexByte (spB sp).data.toList (UInt8.ofNat c.val))=sp.contains (c.val:Int)
 rng:∀ c∈sp,0≤c∧c<128
theorem ydn:Sp spA:=⟨by decide,by decide,by decide +kernel,by decide⟩
def ixR (sp:List Int) (c:Int):Int:=if 0≤c∧c<128 then Lib.indexByte (spB sp).data.toList c.toNat.toUInt8 else -1
theorem ybi {sp:List Int} (h:Sp sp) (c:Int):decide (0≤ixR sp c)=sp.contains c:=by
 rw[ixR]
 by_cases hc:0≤c∧c<128
 · rw[zAz hc]
   have:=h.idx ⟨c.toNat,by omega⟩
   rw[show (((⟨c.toNat,by omega⟩:Fin 128).val:Nat):Int)=c by simp;omega] at this
   exact this
 · rw[zAy hc]
   symm
   rw[show decide ((0:Int)≤-1)=false by decide,Bool.eq_false_iff]
   intro h2
   exact hc (h.rng c (by simpa using h2))
theorem y37 {sp:List Int} (h:Sp sp) {i:Nat} (hi:i<(spB sp).size):∃ b,(spB sp)[i]? =some b∧b.toNat<128:=by
 refine⟨(spB sp)[i],getElem?_pos _ i hi,h.asc _ ?_⟩
 exact Array.getElem_mem_toList (by exact hi)
theorem zy3 {c:Int} (h:128≤c) (hv:Utf8.valid c=true):∃ b,2≤(Utf8.encode c).size∧(Utf8.encode c).size≤4∧(Utf8.encode c)[(Utf8.encode c).size-1]? =some b∧128≤b.toNat:=by
 have h2:c.toNat≤1114111:=by
  have:=zmo (c:=c.toNat) (by rw[show ((c.toNat:Nat):Int)=c by omega];exact hv)
  exact this
 obtain⟨n,rfl⟩:∃ n:Nat,c=n:=⟨c.toNat,by omega⟩
 unfold Utf8.encode
 simp only[hv,if_true,zA9]
 have hm:∀ q:Nat,(UInt8.ofNat (128+q % 64)).toNat=128+q % 64:=fun q=>by simp;omega
 have h3:128≤n:=by omega
 rw[zAy (show ¬ n<128 by omega)]
 split
 · exact⟨UInt8.ofNat (128+n % 64),(show 2≤2 by decide),(show 2≤4 by decide),rfl,by rw[hm];omega⟩
 split
 · exact⟨UInt8.ofNat (128+n % 64),(show 2≤3 by decide),(show 3≤4 by decide),rfl,by rw[hm];omega⟩
 · exact⟨UInt8.ofNat (128+n % 64),(show 2≤4 by decide),(show 4≤4 by decide),rfl,by rw[hm];omega⟩
theorem zy6 (c:Int):Lib.validRune c=Utf8.valid c:=by
 unfold Lib.validRune Utf8.valid
 rw[Bool.eq_iff_iff,zA3,zAu,zA7,zA7,zA3,zA3,zA3,zA3]
 omega
theorem zt8 {sp:List Int} (hsp:Sp sp) (c:Int) (hc0:-1≤c) (hc1:c≤1114111):z09 Tryz.prog 217 [S (spB sp),I .i32 c] (I .i64 (ixR sp c)):=by
 refine z0t fun H=>?_
 refine z06 Tryz.func217 (by kernel_rfl) rfl (by simp) ?_
 dsimp only[Tryz.f217]
 have hsz:=hsp.size
 by_cases h1:0≤c∧c<128
 · have hi:=zr7 (spB sp) c
   rw[ixR,zAz h1]
   have hw8:IntKind.u8.wrap c=c:=by simp[IntKind.wrap,IntKind.bits,IntKind.signed];omega
   repeat' (first|(apply z03;(refine z1n hi ?_))|(apply z3t;(refine z08 (z8k rfl rfl hw8) rfl rfl ?_))|refine z01 ?_|refine fk (fun _=>?_) (fun _=>?_))
   all_goals try (exfalso;omega)
   exact z02 Tryz.func217 _ z1d ⟨rfl,rfl⟩
 rw[ixR,zAy h1]
 by_cases h2:c=65533
 · subst h2
   repeat' (first|refine z01 ?_|(apply z10;(refine z8y rfl rfl rfl (by decide) ?_)))
   all_goals try (exfalso;omega)
   refine z0d ?_
   refine z00 (z0p (fun q:Nat=>⟨187,[(175,.ptr (0,175) 0)],[(175,.siter (spB sp) q)],H⟩) (fun q=>True) (fun q=>(spB sp).size-q) ?_ 0 trivial) rfl rfl
   intro q _ ih
   by_cases hlt:q<(spB sp).size
   · have hda:=decode_ascii (spB sp) q hlt (hsp.asc _ (Array.getElem_mem_toList (by exact hlt)))
     have hb:=hsp.asc _ (Array.getElem_mem_toList (xs:=(spB sp).data) (by exact hlt))
     have hne:((Utf8.decode (spB sp) q).1:Int)≠65533:=by
      rw[hda]
      have:((spB sp)[q]'hlt).toNat<128:=hb
      simp only;omega
     have hw:=z8a (spB sp) q hlt
     repeat' (first|refine z01 ?_|refine fk (fun _=>?_) (fun _=>?_)|(apply z10;(refine z1p hlt rfl rfl (by decide) ?_)))
     all_goals try (exfalso;omega)
     exact z00 (ih _ trivial (by omega)) rfl rfl
   · repeat' (first|refine z01 ?_|(apply z10;(refine z2f hlt rfl rfl (by decide) ?_)))
     all_goals try (exfalso;omega)
     exact z02 Tryz.func217 _ z1d ⟨rfl,rfl⟩
 have hv:=zl4 c
 rw[zy6] at hv
 cases hvv:Utf8.valid c with
 | false =>
  rw[hvv] at hv
  repeat' (first|(apply z03;(refine z1n hv ?_))|refine z01 ?_|refine fk (fun _=>?_) (fun _=>?_))
  all_goals try (exfalso;omega)
  all_goals exact z02 Tryz.func217 _ z1d ⟨rfl,rfl⟩
 | true =>
  rw[hvv] at hv
  have hc:128≤c:=by
   false_or_by_contra
   have:c=-1:=by omega
   subst this;revert hvv;decide
  obtain⟨b,e1,e2,e3,e4⟩:=zy3 hc hvv
  have e3':(Utf8.encode c)[(((Utf8.encode c).size:Int)-1).toNat]? =some b:=by rw[← e3];congr 1;omega
  obtain⟨b0,f1,f2⟩:=y37 hsp (i:=(Utf8.encode c).size-1) (by omega)
  have f1':(spB sp)[(((Utf8.encode c).size:Int)-1).toNat]? =some b0:=by rw[← f1];congr 1;omega
  have hi:=zr7 ((spB sp).extract (((Utf8.encode c).size:Int)-1+1).toNat (spB sp).size) b.toNat
  rw[zsn _ _ (fun x hx=>by
   have hm:x∈(spB sp).data.toList:=by
    rw[ByteArray.data_extract,Array.toList_extract] at hx
    exact List.mem_of_mem_drop (List.mem_of_mem_take hx)
   have:=hsp.asc x hm
   intro he
   subst he
   simp at e4 this;omega)] at hi
  repeat' (first|(apply z03;(refine z1n hv ?_))|(apply z3t;(refine z08 (z6d rfl rfl) rfl rfl ?_))|refine z01 ?_|refine fk (fun _=>?_) (fun _=>?_))
  all_goals try (exfalso;omega)
  refine z0d ?_
  refine z4k ?_
  repeat' (first|(apply zuf;(first|refine z0f (znm rfl (by omega) e3') rfl rfl ?_| refine z0f (znm rfl (by omega) f1') rfl rfl ?_))|(apply z4o;(refine z0f (zd9 rfl (by omega) (by omega)) rfl rfl ?_))|(apply z0m;(refine z3z hi ?_))|refine z01 ?_|refine fk (fun _=>?_) (fun _=>?_))
  all_goals try (exfalso;omega)
  exact z02 Tryz.func217 _ z1d ⟨rfl,rfl⟩
theorem ze2 {sp:List Int} (hsp:Sp sp) (c:Int) (hc0:-1≤c) (hc1:c≤1114111):z09 Tryz.prog 209 [S (spB sp),I .i32 c] (B (sp.contains c)):=by
 refine z0t fun H=>?_
 refine z06 Tryz.func209 (by kernel_rfl) rfl (by simp) ?_
 dsimp only[Tryz.f209]
 have h:=zt8 hsp c hc0 hc1
 rw[← ybi hsp]
 repeat' (first|(apply z03;(refine z1n h ?_))|refine z01 ?_|fail)
 all_goals try (exfalso;omega)
 exact z02 Tryz.func209 _ z1d ⟨rfl,rfl⟩
theorem y04 (s:ByteArray) (i:Nat):-1≤nx (rst s i)∧nx (rst s i)≤1114111:=by
 by_cases hi:i<s.size
 · rw[zzj hi];have:=zei s i;omega
 · rw[z3g (by omega)];simp[nx]
section
variable {X:Nat} (hX0:X≠700) (hX1:X≠701) (τ:Tab) (s:ByteArray) (hs:s.size≤1000000)
include hX0 hX1 hs
end
theorem z7m {H:Hf} {A B:Blk} (h0:H 0 700=some A) (h1:H 0 701=some B):upd (upd (upd (upd H (0,700) .gone) (0,701) .gone) (0,700) A) (0,701) B=H:=by
 funext d s
 simp only[upd]
 by_cases a:d=0∧s=701
 · rw[zAz a,a.1,a.2,h1]
 rw[zAy a]
 by_cases b:d=0∧s=700
 · rw[zAz b,b.1,b.2,h0]
 · rw[zAy b,zAy a,zAy b]
abbrev eX (e:Rx):D:=.agg (rxc e)
theorem y6k (a b:Int):z09 Tryz.prog 207 [I .i32 a,I .i32 b] (.d (eX (Rx.one a b))):=by
 refine z0t fun H=>?_
 refine z06 Tryz.func207 (by kernel_rfl) rfl (by simp) ?_
 dsimp only[Tryz.f207]
 repeat' (first|refine z01 ?_|fail)
 all_goals try (exfalso;omega)
 exact z02 Tryz.func207 _ (z2t rfl rfl rfl rfl rfl rfl) ⟨rfl,rfl⟩
theorem y01 (a b:Int):eX (Rx.one a b)=.agg [z2g 1,z2g 0,z2g 0,rgs [(a,b)],.slice []]:=rfl
theorem zjz (op mn mx:Int) (rs:List Rg) (ks:List Rx):eX (.mk op mn mx rs ks)=.agg (rx5 op mn mx rs ks):=by rw[eX,z3d]
end Go.Proofs.YtmcggompdmngmaaGreatDoor
