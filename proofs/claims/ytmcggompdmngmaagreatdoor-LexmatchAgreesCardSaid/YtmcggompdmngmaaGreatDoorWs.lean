/- A part of the proof: Shg to GE. -/
import Derived.Test.YtmcggompdmngmaaGreatDoorWc
import Derived.Shelf.Small.Utf8
import Derived.Shelf.Small.Strs
import Derived.Shelf.Strings.Search1
import Derived.Shelf.Unicode.Decode
import Derived.Shelf.Unicode.DecodeAny
import Derived.Test.YtmcggompdmngmaaGreatDoorProg
import Derived.Test.YtmcggompdmngmaaGreatDoorWp
import Derived.Test.YtmcggompdmngmaaGreatDoorWx
set_option linter.all false
namespace Go.Proofs.YtmcggompdmngmaaGreatDoor
open Go.Proofs
open Go.Shelf
def zk1:Go.Shelf.Ren:=⟨fun|119=>223|n=>n,fun|21=>21|4=>4|n=>n,fun|n=>n⟩
theorem y3b:Go.Proofs.Lays.n119 Tryz.prog zk1:={
 mixed:=by kernel_rfl
 f119:=Tryz.func223.trans (congrArg some (by kernel_rfl))
 t4:=Tryz.underlying4
 a4:=Tryz.isAgg4
 z4:=Tryz.sizeOf4
 v4:=Tryz.zeroValue4
 t21:=Tryz.underlying21
 a21:=Tryz.isAgg21
 z21:=Tryz.sizeOf21
 v21:=Tryz.zeroValue21 }
theorem utf8_ValidRune (r:Int) (w:World) :
 Calls Tryz.prog 223 #[.int .i32 r] w fun e w'=>e=.returned (.bool (Lib.validRune r))∧w'=w:=Any.utf8_ValidRune y3b r w
def zjq:Go.Shelf.Ren:=⟨fun|137=>222|217=>227|266=>236|n=>n,fun|9=>9|5=>5|3=>3|n=>n,fun|n=>n⟩
theorem y3v:Go.Proofs.Lays.n137 Tryz.prog zjq:={
 mixed:=by kernel_rfl
 f137:=Tryz.func222.trans (congrArg some (by kernel_rfl))
 f217:=Tryz.func227.trans (congrArg some (by kernel_rfl))
 f266:=Tryz.func236.trans (congrArg some (by kernel_rfl))
 t3:=Tryz.underlying3
 a3:=Tryz.isAgg3
 z3:=Tryz.sizeOf3
 v3:=Tryz.zeroValue3
 t5:=Tryz.underlying5
 a5:=Tryz.isAgg5
 z5:=Tryz.sizeOf5
 v5:=Tryz.zeroValue5
 t9:=Tryz.underlying9
 a9:=Tryz.isAgg9
 z9:=Tryz.sizeOf9
 v9:=Tryz.zeroValue9 }
open Go.RowKit in
theorem strings_IndexByte (s:ByteArray) (c:Int) (w:World) :
 Calls Tryz.prog 222 #[.string s,.int .u8 c] w fun e w'=>e=.returned (.int .i64 (Lib.indexByte s.data.toList c.toNat.toUInt8))∧w'=w:=Any.strings_IndexByte y3v s c w
def zkc:Go.Shelf.Ren:=⟨fun|197=>165|260=>198|n=>n,fun|9=>9|21=>21|3=>3|4=>4|5=>5|105=>239|119=>273|0=>0|46=>169|139=>276|138=>275|n=>n,fun|3=>1|4=>2|n=>n⟩
theorem y4k:Go.Proofs.Lays.n197 Tryz.prog zkc:={
 mixed:=by kernel_rfl
 f197:=Tryz.func165.trans (congrArg some (by kernel_rfl))
 f260:=Tryz.func198.trans (congrArg some (by kernel_rfl))
 t0:=Tryz.underlying0
 a0:=Tryz.isAgg0
 z0:=Tryz.sizeOf0
 v0:=Tryz.zeroValue0
 t3:=Tryz.underlying3
 a3:=Tryz.isAgg3
 z3:=Tryz.sizeOf3
 v3:=Tryz.zeroValue3
 t4:=Tryz.underlying4
 a4:=Tryz.isAgg4
 z4:=Tryz.sizeOf4
 v4:=Tryz.zeroValue4
 t5:=Tryz.underlying5
 a5:=Tryz.isAgg5
 z5:=Tryz.sizeOf5
 v5:=Tryz.zeroValue5
 t9:=Tryz.underlying9
 a9:=Tryz.isAgg9
 z9:=Tryz.sizeOf9
 v9:=Tryz.zeroValue9
 t21:=Tryz.underlying21
 a21:=Tryz.isAgg21
 z21:=Tryz.sizeOf21
 v21:=Tryz.zeroValue21
 t46:=Tryz.underlying169
 a46:=Tryz.isAgg169
 z46:=Tryz.sizeOf169
 v46:=Tryz.zeroValue169
 t105:=Tryz.underlying239
 a105:=Tryz.isAgg239
 z105:=Tryz.sizeOf239
 v105:=Tryz.zeroValue239
 t119:=Tryz.underlying273
 a119:=Tryz.isAgg273
 z119:=Tryz.sizeOf273
 t138:=Tryz.underlying275
 a138:=Tryz.isAgg275
 z138:=Tryz.sizeOf275
 v138:=Tryz.zeroValue275
 t139:=Tryz.underlying276
 a139:=Tryz.isAgg276
 z139:=Tryz.sizeOf276
 v139:=Tryz.zeroValue276
 g3:=by kernel_rfl
 g4:=by kernel_rfl }
open Go.RowKit Go.Lib in
def z6u:Go.Shelf.Ren:=⟨fun|260=>198|n=>n,fun|9=>9|21=>21|3=>3|4=>4|5=>5|119=>273|0=>0|46=>169|139=>276|138=>275|n=>n,fun|3=>1|4=>2|n=>n⟩
theorem zfr:Go.Proofs.Lays.n260 Tryz.prog z6u:={
 mixed:=by kernel_rfl
 f260:=Tryz.func198.trans (congrArg some (by kernel_rfl))
 t0:=Tryz.underlying0
 a0:=Tryz.isAgg0
 z0:=Tryz.sizeOf0
 v0:=Tryz.zeroValue0
 t3:=Tryz.underlying3
 a3:=Tryz.isAgg3
 z3:=Tryz.sizeOf3
 v3:=Tryz.zeroValue3
 t4:=Tryz.underlying4
 a4:=Tryz.isAgg4
 z4:=Tryz.sizeOf4
 v4:=Tryz.zeroValue4
 t5:=Tryz.underlying5
 a5:=Tryz.isAgg5
 z5:=Tryz.sizeOf5
 v5:=Tryz.zeroValue5
 t9:=Tryz.underlying9
 a9:=Tryz.isAgg9
 z9:=Tryz.sizeOf9
 v9:=Tryz.zeroValue9
 t21:=Tryz.underlying21
 a21:=Tryz.isAgg21
 z21:=Tryz.sizeOf21
 v21:=Tryz.zeroValue21
 t46:=Tryz.underlying169
 a46:=Tryz.isAgg169
 z46:=Tryz.sizeOf169
 v46:=Tryz.zeroValue169
 t119:=Tryz.underlying273
 a119:=Tryz.isAgg273
 z119:=Tryz.sizeOf273
 t138:=Tryz.underlying275
 a138:=Tryz.isAgg275
 z138:=Tryz.sizeOf275
 v138:=Tryz.zeroValue275
 t139:=Tryz.underlying276
 a139:=Tryz.isAgg276
 z139:=Tryz.sizeOf276
 v139:=Tryz.zeroValue276
 g3:=by kernel_rfl
 g4:=by kernel_rfl }
open Go.RowKit Go.Lib in
open Go.RowKit Go.Lib in
theorem utf8_DecodeRuneInString (s:ByteArray) (w:World) (hT:Lib.Utf8Tabs 1 2 w) :
 Calls Tryz.prog 165 #[.string s] w fun e w'=>e=.returned (.tuple #[.int .i32 (Lib.decodeGo s).1,.int .i64 (Lib.decodeGo s).2])∧Below w.heap.size w w':=Any.utf8_DecodeRuneInString y4k s w hT
end Go.Proofs.YtmcggompdmngmaaGreatDoor
namespace Go.Proofs.YtmcggompdmngmaaGreatDoor
open Go.Ab Go.Rx
set_option maxHeartbeats 20000000
set_option maxRecDepth 100000
attribute [local irreducible] Run Ops Op1 z14 Val Tr z0d z0w NF Rel z1z z27
structure Tab where
 o0:Obj
 o1:Obj
 ok:∀ w:World,w.heap[1]? =some o0→w.heap[2]? =some o1→Lib.Utf8Tabs 1 2 w
variable {τ:Tab}
abbrev zhr (τ:Tab) (e:Nat):List (Nm × Blk):=[((e,700),.glob 1 τ.o0),((e,701),.glob 2 τ.o1)]
structure HT (τ:Tab) (e:Nat) (H:Hf):Prop where
 a:H e 700=some (.glob 1 τ.o0)
 b:H e 701=some (.glob 2 τ.o1)
theorem HT.of {e:Nat} {H:Hf} {bs:List (Nm × Blk)} (h:∀ q∈bs++zhr τ e,H q.1.1 q.1.2=some q.2):HT τ e H :=
 ⟨h ((e,700),.glob 1 τ.o0) (by simp),h ((e,701),.glob 2 τ.o1) (by simp)⟩
theorem HT.upd {e d X:Nat} {H:Hf} {b:Blk} (h:HT τ e H) (h0:X≠700) (h1:X≠701):HT τ e (upd H (d,X) b):=by
 refine⟨?_,?_⟩
 · have:=zjf H (d,X) (e,700) b (fun q=>h0 (Prod.mk.inj q).2.symm)
   exact this.trans h.a
 · have:=zjf H (d,X) (e,701) b (fun q=>h1 (Prod.mk.inj q).2.symm)
   exact this.trans h.b
theorem bkT {e n:Nat} {tm:List (Nat × PV)} {hp:Hp} {up:Hf} (h:HT τ e up):BkE ⟨n,tm,hp,up⟩ (zhr τ (e+1)) :=
 z07 (m:=(e+1,700)) h.a (z07 (m:=(e+1,701)) h.b z5h)
theorem HT.push {e:Nat} {H:Hf} (hp:Hp) (h:HT τ e H):HT τ (e+1) (Ab.push hp H):=⟨h.a,h.b⟩
theorem zlh (τ:Tab) (s:ByteArray) (e:Nat):z0w Tryz.prog 165 [S s] (zhr τ e) [] (.tup [I .i32 ((Lib.decodeGo s).1:Nat),I .i64 ((Lib.decodeGo s).2:Nat)]):=by
 refine zii ⟨_,Tryz.func165,by kernel_rfl,by kernel_rfl⟩ fun H hH β own w vals hHR hA=>?_
 obtain⟨hl,ha⟩:=hA
 obtain⟨v,rfl⟩:∃ v,vals=[v]:=by
  match vals,hl with
  | [v],_=>exact⟨v,rfl⟩
 have hv:=PR.lit (ha 0 _ v rfl rfl)
 subst hv
 have h0:=hHR.blk (e,700) (.glob 1 τ.o0) (by
  have:=hH ((e,700),.glob 1 τ.o0) (by simp)
  cases e with
  | zero=>exact this
  | succ e=>simp only[z0f];rw[this];rfl)
 have h1:=hHR.blk (e,701) (.glob 2 τ.o1) (by
  have:=hH ((e,701),.glob 2 τ.o1) (by simp)
  cases e with
  | zero=>exact this
  | succ e=>simp only[z0f];rw[this];rfl)
 have hT:Lib.Utf8Tabs 1 2 w:=by
  refine τ.ok w ?_ ?_
  · generalize β (e,700)=x at h0
    cases h0 with|glob _ _ ho hg hd=>exact hg
  · generalize β (e,701)=x at h1
    cases h1 with|glob _ _ ho hg hd=>exact hg
 refine⟨_,utf8_DecodeRuneInString s w hT,fun w' own'=>?_⟩
 refine .tup _ _ rfl fun j p v hp hv=>?_
 match j,hp,hv with
 | 0,hp,hv=>simp at hp hv;subst hp;subst hv;exact PR.I _ _
 | 1,hp,hv=>simp at hp hv;subst hp;subst hv;exact PR.I _ _
abbrev pbx (s:ByteArray) (at_:Int) (a e:Int):Blk:=.box [S s,I .i64 at_,I .i64 a,I .i64 e]
section
variable {X:Nat} (hX0:X≠700) (hX1:X≠701)
theorem z42 (τ:Tab) (s:ByteArray) (i:Nat) (hi:i≤s.size) (a e:Int) (e0:Nat):z0w Tryz.prog 129 [.ptr (e0,X) 0] (((e0,X),pbx s i a e)::zhr τ (e0+1)) [] (I .i32 (nx (rst s i))):=by
 refine z10 fun H hH=>?_
 have hX:=hH ((e0,X),pbx s i a e) (by simp)
 have hT:HT τ (e0+1) H:=HT.of (bs:=[((e0,X),pbx s i a e)]) hH
 refine z08 Tryz.func129 (by kernel_rfl) rfl (by simp) ?_
 dsimp only[Tryz.f129]
 by_cases hlt:i<s.size
 · have hd:=zlh τ (s.extract i s.size) (e0+1+1)
   rw[y5j s i hlt] at hd
   rw[zbl hlt]
   repeat' (first|(apply z0e;(refine z0k (z3z (b:=pbx s i a e) rfl rfl rfl rfl) rfl (bkN hX) ?_))|(apply z4v;(refine z0k (zco rfl (by omega) (by omega)) rfl rfl ?_))|(apply z0p;(refine z9v hd (by first|exact rfl|exact⟨_,rfl,rfl,rfl⟩) rfl (bkT hT) (by decide) ?_))|refine z05 ?_|refine fk (fun _=>?_) (fun _=>?_))
   all_goals try (exfalso;omega)
   exact z00 Tryz.func129 _ z11 ⟨rfl,rfl⟩
 · rw[z29 (by omega)]
   obtain rfl:i=s.size:=by omega
   repeat' (first|(apply z0e;(refine z0k (z3z (b:=pbx s s.size a e) rfl rfl rfl rfl) rfl (bkN hX) ?_))|refine z05 ?_|refine fk (fun _=>?_) (fun _=>?_))
   all_goals try (exfalso;omega)
   exact z00 Tryz.func129 _ z11 ⟨rfl,rfl⟩
theorem zyw (τ:Tab) (s:ByteArray) (i:Nat) (hi:i<s.size) (hs:s.size≤1000000) (a e:Int) (e0:Nat):z0w Tryz.prog 218 [.ptr (e0,X) 0] (((e0,X),pbx s i a e)::zhr τ (e0+1)) [((e0,X),pbx s ((i+(Utf8.decode s i).2:Nat):Int) a e)] (.tup []):=by
 refine z10 fun H hH=>?_
 have hX:=hH ((e0,X),pbx s i a e) (by simp)
 have hT:HT τ (e0+1) H:=HT.of (bs:=[((e0,X),pbx s i a e)]) hH
 have hw:=z6i s i hi
 refine z08 Tryz.func218 (by kernel_rfl) rfl (by simp) ?_
 dsimp only[Tryz.f218]
 have hd:=zlh τ (s.extract i s.size) (e0+1+1)
 rw[y5j s i hi] at hd
 repeat' (first|(apply z0i;(refine z0c (z3z (b:=pbx s i a e) rfl rfl rfl rfl) rfl (bkN hX) ?_))|(apply z0e;(refine z0k (z3z (b:=pbx s i a e) rfl rfl rfl rfl) rfl (bkN hX) ?_))|(apply z4v;(refine z0k (zco rfl (by omega) (by omega)) rfl rfl ?_))|(apply z0p;(refine z9v hd (by first|exact rfl|exact⟨_,rfl,rfl,rfl⟩) rfl (bkT hT) (by decide) ?_))|(apply z0o;(refine z1r (raw:=pbx s i a e) (raw':=pbx s (i+(Utf8.decode s i).2) a e) hX ?_))|refine z05 ?_|fail)
 all_goals try (exfalso;omega)
 rw[← Int.natCast_add]
 exact zdp Tryz.func218 _ (z2q rfl) ⟨rfl,rfl⟩
theorem z5p (s:ByteArray) (p:PV) (at_ n:Int) (e0:Nat) (hn:n≠0):z0w Tryz.prog 88 [.ptr (e0,X) 0,I .i64 at_,I .i64 n] [((e0,X),.box [S s,p,I .i64 0,I .i64 0])] [((e0,X),.box [S s,p,I .i64 at_,I .i64 n])] (B false):=by
 refine z10 fun H hH=>?_
 have hX:=hH ((e0,X),.box [S s,p,I .i64 0,I .i64 0]) (by simp)
 refine z08 Tryz.func88 (by kernel_rfl) rfl (by simp) ?_
 dsimp only[Tryz.f88]
 repeat' (first|(apply z0i;(refine z0c (z3z (b:=.box [S s,p,I .i64 0,I .i64 0]) rfl rfl rfl rfl) rfl (bkN hX) ?_))|(apply z0o;(first|refine z1r (raw:=.box [S s,p,I .i64 at_,I .i64 0]) (raw':=.box [S s,p,I .i64 at_,I .i64 n]) (z02 H (e0,X) _) ?_| refine z1r (raw:=.box [S s,p,I .i64 0,I .i64 0]) (raw':=.box [S s,p,I .i64 at_,I .i64 0]) hX ?_))|refine z05 ?_|fail)
 all_goals try (exfalso;omega)
 rw[z0a]
 exact z00 Tryz.func88 _ z11 ⟨rfl,rfl⟩
end
end Go.Proofs.YtmcggompdmngmaaGreatDoor
namespace Go.Proofs.YtmcggompdmngmaaGreatDoor
open Go.Ab Go.Rx
set_option maxHeartbeats 20000000
set_option maxRecDepth 100000
attribute [local irreducible] Run Ops Op1 z14 Val Tr z0d z0w NF Rel z1z z27
theorem z7x {g:FuncId} {ps:List PV} {p:PV} (hp:Plain Tryz.prog g) (h:∀ β own w vals,z6r β w own ps vals→∃ v,Calls Tryz.prog g vals.toArray w (fun e w'=>e=.returned v∧w'=w)∧∀ w' own',PR β w' own' p v):z0d Tryz.prog g ps p:=by
 have:=zii (bs:=[]) hp fun H hH β own w vals hHR hA=>by
  obtain⟨v,hc,hv⟩:=h β own w vals hA
  exact⟨v,hc.mono fun e w' ⟨h1,h2⟩=>⟨h1,by subst h2;exact RowKit.Below.refl _ _⟩,hv⟩
 unfold z0d
 intro H
 unfold z0w at this
 have h2:=this H (by simp)
 exact h2
theorem zrt (s:ByteArray) (c:Int):z0d Tryz.prog 222 [S s,I .u8 c] (I .i64 (Lib.indexByte s.data.toList c.toNat.toUInt8)):=by
 refine z7x ⟨_,Tryz.func222,by kernel_rfl,by kernel_rfl⟩ fun β own w vals hA=>?_
 obtain⟨hl,ha⟩:=hA
 obtain⟨v,u,rfl⟩:∃ v u,vals=[v,u]:=by
  match vals,hl with
  | [v,u],_=>exact⟨v,u,rfl⟩
 have hv:=PR.lit (ha 0 _ v rfl rfl)
 have hu:=PR.lit (ha 1 _ u rfl rfl)
 subst hv hu
 exact⟨_,strings_IndexByte s c w,fun w' own'=>PR.I _ _⟩
theorem zkn (r:Int):z0d Tryz.prog 223 [I .i32 r] (B (Lib.validRune r)):=by
 refine z7x ⟨_,Tryz.func223,by kernel_rfl,by kernel_rfl⟩ fun β own w vals hA=>?_
 obtain⟨hl,ha⟩:=hA
 obtain⟨v,rfl⟩:∃ v,vals=[v]:=by
  match vals,hl with
  | [v],_=>exact⟨v,rfl⟩
 have hv:=PR.lit (ha 0 _ v rfl rfl)
 subst hv
 exact⟨_,utf8_ValidRune r w,fun w' own'=>PR.B _⟩
def spB (l:List Int):ByteArray:=⟨(l.map fun c=>UInt8.ofNat c.toNat).toArray⟩
theorem zqw:∀ (l:List UInt8) (c:UInt8),(∀ b∈l,b≠c)→Lib.indexByte l c=-1
 | [],c,_=>rfl
 | b::l,c,h=>by
  have hb:(b == c)=false:=by simpa using h b (by simp)
  rw[Lib.indexByte,hb,zqw l c fun x hx=>h x (by simp[hx])];rfl
structure Sp (sp:List Int):Prop where
 size:5≤(spB sp).size∧(spB sp).size≤12
 asc:∀ b∈(spB sp).data.toList,b.toNat<128
 idx:∀ c:Fin 128,decide (0≤Lib.indexByte (spB sp).data.toList (UInt8.ofNat c.val))=sp.contains (c.val:Int)
 rng:∀ c∈sp,0≤c∧c<128
theorem yb6:Sp spA:=⟨by decide,by decide,by decide +kernel,by decide⟩
theorem ybb:Sp spC:=⟨by decide,by decide,by decide +kernel,by decide⟩
def ixR (sp:List Int) (c:Int):Int:=if 0≤c∧c<128 then Lib.indexByte (spB sp).data.toList c.toNat.toUInt8 else -1
theorem y9a {sp:List Int} (h:Sp sp) (c:Int):decide (0≤ixR sp c)=sp.contains c:=by
 rw[ixR]
 by_cases hc:0≤c∧c<128
 · rw[zAz hc]
   have:=h.idx ⟨c.toNat,by omega⟩
   rw[show (((⟨c.toNat,by omega⟩:Fin 128).val:Nat):Int)=c by simp;omega] at this
   exact this
 · rw[zAy hc]
   symm
   rw[show decide ((0:Int)≤-1)=false by decide,Bool.eq_false_iff]
   intro h2
   exact hc (h.rng c (by simpa using h2))
theorem y31 {sp:List Int} (h:Sp sp) {i:Nat} (hi:i<(spB sp).size):∃ b,(spB sp)[i]? =some b∧b.toNat<128:=by
 refine⟨(spB sp)[i],getElem?_pos _ i hi,h.asc _ ?_⟩
 exact Array.getElem_mem_toList (by exact hi)
theorem zw1 {c:Int} (h:128≤c) (hv:Utf8.valid c=true):∃ b,2≤(Utf8.encode c).size∧(Utf8.encode c).size≤4∧(Utf8.encode c)[(Utf8.encode c).size-1]? =some b∧128≤b.toNat:=by
 have h2:c.toNat≤1114111:=by
  have:=zns (c:=c.toNat) (by rw[show ((c.toNat:Nat):Int)=c by omega];exact hv)
  exact this
 obtain⟨n,rfl⟩:∃ n:Nat,c=n:=⟨c.toNat,by omega⟩
 unfold Utf8.encode
 simp only[hv,if_true,zA9]
 have hm:∀ q:Nat,(UInt8.ofNat (128+q % 64)).toNat=128+q % 64:=fun q=>by simp;omega
 have h3:128≤n:=by omega
 rw[zAy (show ¬ n<128 by omega)]
 split
 · exact⟨UInt8.ofNat (128+n % 64),(show 2≤2 by decide),(show 2≤4 by decide),rfl,by rw[hm];omega⟩
 split
 · exact⟨UInt8.ofNat (128+n % 64),(show 2≤3 by decide),(show 3≤4 by decide),rfl,by rw[hm];omega⟩
 · exact⟨UInt8.ofNat (128+n % 64),(show 2≤4 by decide),(show 4≤4 by decide),rfl,by rw[hm];omega⟩
theorem zvl (c:Int):Lib.validRune c=Utf8.valid c:=by
 unfold Lib.validRune Utf8.valid
 rw[Bool.eq_iff_iff,zA3,zAu,zA7,zA7,zA3,zA3,zA3,zA3]
 omega
theorem zrk {sp:List Int} (hsp:Sp sp) (c:Int) (hc0:-1≤c) (hc1:c≤1114111):z0d Tryz.prog 217 [S (spB sp),I .i32 c] (I .i64 (ixR sp c)):=by
 refine z0y fun H=>?_
 refine z08 Tryz.func217 (by kernel_rfl) rfl (by simp) ?_
 dsimp only[Tryz.f217]
 have hsz:=hsp.size
 by_cases h1:0≤c∧c<128
 · have hi:=zrt (spB sp) c
   rw[ixR,zAz h1]
   have hw8:IntKind.u8.wrap c=c:=by simp[IntKind.wrap,IntKind.bits,IntKind.signed];omega
   repeat' (first|(apply z03;(refine z1i hi ?_))|(apply z4q;(refine z0c (z8j rfl rfl hw8) rfl rfl ?_))|refine z05 ?_|refine fk (fun _=>?_) (fun _=>?_))
   all_goals try (exfalso;omega)
   exact z00 Tryz.func217 _ z11 ⟨rfl,rfl⟩
 rw[ixR,zAy h1]
 by_cases h2:c=65533
 · subst h2
   repeat' (first|refine z05 ?_|(apply z1b;(refine z8t rfl rfl rfl (by decide) ?_)))
   all_goals try (exfalso;omega)
   refine z0l ?_
   refine z01 (z0x (fun q:Nat=>⟨187,[(175,.ptr (0,175) 0)],[(175,.siter (spB sp) q)],H⟩) (fun q=>True) (fun q=>(spB sp).size-q) ?_ 0 trivial) rfl rfl
   intro q _ ih
   by_cases hlt:q<(spB sp).size
   · have hda:=decode_ascii (spB sp) q hlt (hsp.asc _ (Array.getElem_mem_toList (by exact hlt)))
     have hb:=hsp.asc _ (Array.getElem_mem_toList (xs:=(spB sp).data) (by exact hlt))
     have hne:((Utf8.decode (spB sp) q).1:Int)≠65533:=by
      rw[hda]
      have:((spB sp)[q]'hlt).toNat<128:=hb
      simp only;omega
     have hw:=z6i (spB sp) q hlt
     repeat' (first|refine z05 ?_|refine fk (fun _=>?_) (fun _=>?_)|(apply z1b;(refine z1s hlt rfl rfl (by decide) ?_)))
     all_goals try (exfalso;omega)
     exact z01 (ih _ trivial (by omega)) rfl rfl
   · repeat' (first|refine z05 ?_|(apply z1b;(refine z2p hlt rfl rfl (by decide) ?_)))
     all_goals try (exfalso;omega)
     exact z00 Tryz.func217 _ z11 ⟨rfl,rfl⟩
 have hv:=zkn c
 rw[zvl] at hv
 cases hvv:Utf8.valid c with
 | false =>
  rw[hvv] at hv
  repeat' (first|(apply z03;(refine z1i hv ?_))|refine z05 ?_|refine fk (fun _=>?_) (fun _=>?_))
  all_goals try (exfalso;omega)
  all_goals exact z00 Tryz.func217 _ z11 ⟨rfl,rfl⟩
 | true =>
  rw[hvv] at hv
  have hc:128≤c:=by
   false_or_by_contra
   have:c=-1:=by omega
   subst this;revert hvv;decide
  obtain⟨b,e1,e2,e3,e4⟩:=zw1 hc hvv
  have e3':(Utf8.encode c)[(((Utf8.encode c).size:Int)-1).toNat]? =some b:=by rw[← e3];congr 1;omega
  obtain⟨b0,f1,f2⟩:=y31 hsp (i:=(Utf8.encode c).size-1) (by omega)
  have f1':(spB sp)[(((Utf8.encode c).size:Int)-1).toNat]? =some b0:=by rw[← f1];congr 1;omega
  have hi:=zrt ((spB sp).extract (((Utf8.encode c).size:Int)-1+1).toNat (spB sp).size) b.toNat
  rw[zqw _ _ (fun x hx=>by
   have hm:x∈(spB sp).data.toList:=by
    rw[ByteArray.data_extract,Array.toList_extract] at hx
    exact List.mem_of_mem_drop (List.mem_of_mem_take hx)
   have:=hsp.asc x hm
   intro he
   subst he
   simp at e4 this;omega)] at hi
  repeat' (first|(apply z03;(refine z1i hv ?_))|(apply z4q;(refine z0c (z6q rfl rfl) rfl rfl ?_))|refine z05 ?_|refine fk (fun _=>?_) (fun _=>?_))
  all_goals try (exfalso;omega)
  refine z0l ?_
  refine zg7 ?_
  repeat' (first|(apply zuh;(first|refine z0k (zmz rfl (by omega) e3') rfl rfl ?_| refine z0k (zmz rfl (by omega) f1') rfl rfl ?_))|(apply z4v;(refine z0k (zco rfl (by omega) (by omega)) rfl rfl ?_))|(apply z0p;(refine z4s hi ?_))|refine z05 ?_|refine fk (fun _=>?_) (fun _=>?_))
  all_goals try (exfalso;omega)
  exact z00 Tryz.func217 _ z11 ⟨rfl,rfl⟩
theorem z5w {sp:List Int} (hsp:Sp sp) (c:Int) (hc0:-1≤c) (hc1:c≤1114111):z0d Tryz.prog 209 [S (spB sp),I .i32 c] (B (sp.contains c)):=by
 refine z0y fun H=>?_
 refine z08 Tryz.func209 (by kernel_rfl) rfl (by simp) ?_
 dsimp only[Tryz.f209]
 have h:=zrk hsp c hc0 hc1
 rw[← y9a hsp]
 repeat' (first|(apply z03;(refine z1i h ?_))|refine z05 ?_|fail)
 all_goals try (exfalso;omega)
 exact z00 Tryz.func209 _ z11 ⟨rfl,rfl⟩
theorem y3m {s:ByteArray} {i:Nat} (hi:i<s.size) (h:(Utf8.decode s i).1<128):(Utf8.decode s i).2=1:=by
 by_cases ha:(s[i]'hi).toNat<128
 · rw[decode_ascii s i hi ha]
 · have:=(decode_high s i hi (by omega)).1;omega
theorem y2n {s:ByteArray} {i:Nat} (hi:i≤s.size) (h:0≤nx (rst s i)):i<s.size:=by
 false_or_by_contra
 rw[z29 (by omega)] at h;simp[nx] at h
theorem zmm (s:ByteArray) (i:Nat):-1≤nx (rst s i)∧nx (rst s i)≤1114111:=by
 by_cases hi:i<s.size
 · rw[zbl hi];have:=zbn s i;omega
 · rw[z29 (by omega)];simp[nx]
theorem z2e {s:ByteArray} {i:Nat} (hi:i≤s.size) {c:Int} (hc:nx (rst s i)=c) (h0:0≤c) (h1:c<128):i<s.size∧(rst s i).tail=rst s (i+1)∧rst s i=⟨c,1⟩::rst s (i+1):=by
 have hlt:=y2n hi (by omega)
 rw[zbl hlt] at hc
 have hw:=y3m hlt (by omega)
 have e:=z3c hlt
 rw[hw,hc] at e
 exact⟨hlt,by rw[e];rfl,e⟩
abbrev ebx (s:ByteArray) (a e:Int):Blk:=.box [S s,.any,I .i64 a,I .i64 e]
def zov {α:Type} (s:ByteArray):Rd α→Blk
 | .ok _ r=>pbx s ((s.size-bts r:Nat):Int) 0 0
 | .err a e=>ebx s ((s.size-bts a:Nat):Int) e
 | .out=>.gone
def z96 {α:Type} (enc:α→D) (z:D):Rd α→PV
 | .ok a _=>.tup [.d (enc a),B true]
 | .err _ _=>.tup [.d z,B false]
 | .out=>.any
theorem z3u {α:Type} {s:ByteArray} {a:α} {i:Nat} (hi:i≤s.size):zov s (.ok a (rst s i))=pbx s (i:Nat) 0 0:=by
 rw[zov,zc6 hi,show s.size-(s.size-i)=i by omega]
theorem z5j {α:Type} {s:ByteArray} {e:Int} {i:Nat} (hi:i≤s.size):zov s (.err (rst s i) e:Rd α)=ebx s (i:Nat) e:=by
 rw[zov,zc6 hi,show s.size-(s.size-i)=i by omega]
theorem wkP {a b c d:PV}:Wk [a,b,c,d] [a,.any,c,d]:=⟨.inl rfl,.inr rfl,.inl rfl,.inl rfl,trivial⟩
theorem zrf (c:Int):z0d Tryz.prog 219 [I .i32 c] (B (dgt c)):=by
 refine z0y fun H=>?_
 refine z08 Tryz.func219 (by kernel_rfl) rfl (by simp) ?_
 dsimp only[Tryz.f219]
 rw[dgt]
 by_cases h1:48≤c
 · rw[zAi h1,Bool.true_and]
   exact zD140
 · rw[zAo h1,Bool.false_and]
   exact zD140
section
variable {X:Nat} (hX0:X≠700) (hX1:X≠701) (τ:Tab) (s:ByteArray) (hs:s.size≤1000000)
include hX0 hX1 hs
theorem yan (i:Nat) (hi:i≤s.size) (c:Int) (h0:0≤c) (h1:c<128) (e0:Nat):z0w Tryz.prog 206 [.ptr (e0,X) 0,I .i32 c] (((e0,X),pbx s i 0 0)::zhr τ (e0+1))
 [((e0,X),if nx (rst s i)=c then pbx s ((i+1:Nat):Int) 0 0 else ebx s (i:Nat) 3)] (B (decide (nx (rst s i)=c))):=by
 refine z10 fun H hH=>?_
 have hX:H e0 X=some (pbx s i 0 0):=hH ((e0,X),pbx s i 0 0) (by simp)
 have hT:HT τ (e0+1) H:=HT.of (bs:=[((e0,X),pbx s i 0 0)]) hH
 refine z08 Tryz.func206 (by kernel_rfl) rfl (by simp) ?_
 dsimp only[Tryz.f206]
 have hn:=z42 (X:=X) τ s i hi 0 0 (e0+1)
 have hf:=z5p (X:=X) s (I .i64 i) i 3 (e0+1) (by decide)
 by_cases hc:nx (rst s i)=c
 · obtain⟨hlt,_,_⟩:=z2e hi hc h0 h1
   rw[zAz hc,zAi hc]
   repeat' (first|(apply z0i;(refine z2r hX ?_))|(apply z03;(first|refine z2x hf rfl hX (by decide) ?_|refine z0s hn (z07 (m:=(e0+1,X)) hX (bkT (by repeat (first|exact hT|refine HT.upd ?_ hX0 hX1)))) ?_))|(apply z0o;(refine z1r (raw':=pbx s ((i+1:Nat):Int) 0 0) hX ?_))|refine z05 ?_|refine fk (fun _=>?_) (fun _=>?_))
   all_goals try (exfalso;omega)
   exact z00 Tryz.func206 _ z11 ⟨rfl,rfl⟩
 · rw[zAy hc,zAo hc]
   repeat' (first|(apply z0i;(refine z2r hX ?_))|(apply z03;(first|refine z2x hf rfl hX (by decide) ?_|refine z0s hn (z07 (m:=(e0+1,X)) hX (bkT (by repeat (first|exact hT|refine HT.upd ?_ hX0 hX1)))) ?_))|(apply z0o;(refine z1r (raw':=pbx s ((i+1:Nat):Int) 0 0) hX ?_))|refine z05 ?_|refine fk (fun _=>?_) (fun _=>?_))
   all_goals try (exfalso;omega)
   refine z4r (d:=e0) (X:=X) (qs:=[S s,.any,I .i64 i,I .i64 3]) wkP ?_
   exact z00 Tryz.func206 _ z11 ⟨rfl,rfl⟩
end
theorem z7n {H:Hf} {A B:Blk} (h0:H 0 700=some A) (h1:H 0 701=some B):upd (upd (upd (upd H (0,700) .gone) (0,701) .gone) (0,700) A) (0,701) B=H:=by
 funext d s
 simp only[upd]
 by_cases a:d=0∧s=701
 · rw[zAz a,a.1,a.2,h1]
 rw[zAy a]
 by_cases b:d=0∧s=700
 · rw[zAz b,b.1,b.2,h0]
 · rw[zAy b,zAy a,zAy b]
abbrev eX (e:Rx):D:=.agg (rxc e)
theorem y1c (a b:Int):z0d Tryz.prog 207 [I .i32 a,I .i32 b] (.d (eX (Rx.one a b))):=by
 refine z0y fun H=>?_
 refine z08 Tryz.func207 (by kernel_rfl) rfl (by simp) ?_
 dsimp only[Tryz.f207]
 repeat' (first|refine z05 ?_|fail)
 all_goals try (exfalso;omega)
 exact z00 Tryz.func207 _ (z34 rfl rfl rfl rfl rfl rfl) ⟨rfl,rfl⟩
theorem zme (a b:Int):eX (Rx.one a b)=.agg [z4n 1,z4n 0,z4n 0,rgs [(a,b)],.slice []]:=rfl
theorem z4a:eX zec=.agg [z4n 0,z4n 0,z4n 0,rgs [],.slice []]:=rfl
theorem z6g (op mn mx:Int) (rs:List Rg) (ks:List Rx):eX (.mk op mn mx rs ks)=.agg (rx5 op mn mx rs ks):=by rw[eX,z2k]
end Go.Proofs.YtmcggompdmngmaaGreatDoor
