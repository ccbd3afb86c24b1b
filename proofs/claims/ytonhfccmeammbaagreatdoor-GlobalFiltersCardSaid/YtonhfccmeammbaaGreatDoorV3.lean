/- A part. -/
import Derived.Test.YtonhfccmeammbaaGreatDoorVs
import Derived.Lib.LaidU8
import Derived.Test.YtonhfccmeammbaaGreatDoorRows
import Derived.Test.YtonhfccmeammbaaGreatDoorVTA
import Derived.OpenShut
import Derived.LaidMore
set_option linter.all false
open Go.Proofs.Tryz
namespace Go.Proofs.YtonhfccmeammbaaGreatDoor
open Go.Ab Go.Rx Go.ChangeShapes Go.WideShapes Go.ChangeAt Go.RowKit Go.Lib
set_option maxHeartbeats 20000000
set_option maxRecDepth 100000
abbrev zoz:Nat→Prop:=fun g=>g=0∨g=1
abbrev y5x:List (String × DataW Unit):=[("unicode/utf8.acceptRanges",Rows.laid_unicode_utf8_acceptRanges),("unicode/utf8.first",Rows.laid_unicode_utf8_first)]
theorem y25:(Rows.laid_unicode_utf8_acceptRanges:DataW Unit)=acceptData:=by kernel_rfl
theorem zv4:Rows.laid_unicode_utf8_first=firstData:=by kernel_rfl
theorem z8x:U8Extra prog z89:=⟨by kernel_rfl,by kernel_rfl,by kernel_rfl,by kernel_rfl,by kernel_rfl,by kernel_rfl,by kernel_rfl⟩
theorem zs5{H:Type}{enc:TypeId × Value→H}{P:Program}{w:World}{base:Nat}{sp:Nat→Bool}{held:Bool}{fuel:Nat}{t e:TypeId}{n:Nat}{cs:List Value}{ds:List (DataW H)}{p:List MemPlace}(ht:P.underlying t=some (.array n e))
 (h:DataW.trod enc P w base sp held fuel t cs=some (.agg ds,p)):cs.length=P.cellsOf t∨cs.length=n*P.cellsOf e:=by
 cases fuel with
 | zero=>simp[DataW.trod]at h
 | succ fuel =>
  simp only[DataW.trod,ht]at h
  split at h
  ·rename_i hc
   first
    | exact .inl (by simpa using hc)
    | exact .inr (by simpa using hc)
  ·cases h
structure y6e(W:World):Prop where
 u:Lib.Utf8Tabs 0 1 W
 sep:∀g o v,zoz g→W.cell? ⟨g,o,none⟩=some v→∃z,v=.int .u8 z
 e0:∃o,W.heap[0]? =some o∧∀x,o≠.deferred x
 e1:∃o,W.heap[1]? =some o∧∀x,o≠.deferred x
theorem zn4{P:Program}{w:World}{n:String}{g:Nat}{cs:Array Value}(hg:P.globalNamed n=some g)(h:w.var? P n=some cs):∃o,w.heap[g]? =some o∧∀x,o≠.deferred x:=by
 simp only[World.var?,hg,Option.bind_some]at h
 split at h
 ·rename_i a b c hh
  exact⟨_,hh,fun x e=>by cases e⟩
 ·cases h
theorem zqy{W:World}(hL:laidMetH prog y5x W):y6e W:=by
 rw[MakeChecks.laidMetH_plain _ _ _ (by kernel_rfl)]at hL
 have h4:=Lib.laidMet.reads hL (n:= "unicode/utf8.acceptRanges") (.head _)
 have h3:=Lib.laidMet.reads hL (n:= "unicode/utf8.first") (.tail _ (.head _))
 rw[y25]at h4
 rw[zv4]at h3
 have hu:Lib.Utf8Tabs 0 1 W:=utf8Tabs_of_reads (ρ:=z89) zhb z8x h3 h4
 obtain⟨g,t,cs,fuel,p,hg,hty,hvar,hd⟩:=h3
 obtain⟨g',t',cs',fuel',p',hg',hty',hvar',hd'⟩:=h4
 obtain rfl:=Option.some.inj (z8x.n3.symm.trans hg)
 obtain rfl:=Option.some.inj (z8x.y3.symm.trans hty)
 obtain rfl:=Option.some.inj (z8x.n4.symm.trans hg')
 obtain rfl:=Option.some.inj (z8x.y4.symm.trans hty')
 refine⟨hu,fun g o v hown hv=>?_,zn4 hg hvar,zn4 hg' hvar'⟩
 rcases hown with rfl|rfl
 ·have hcs:=cells_of_tab zhb.t119 zhb.t5 z8x.c5 z8x.c119 hd
  have:=World.var?_cell hg hvar o
  change W.cell? ⟨0,o,none⟩=_ at this
  rw[this,←Array.getElem?_toList,hcs]at hv
  rw[zAd]at hv
  cases hz:firstTab[o]? with
  | none=>rw[hz]at hv;simp at hv
  | some z=>rw[hz]at hv;simp at hv;exact⟨z,hv.symm⟩
 ·have hl:=zs5 zhb.t139 hd'
  have:=World.var?_cell hg' hvar' o
  change W.cell? ⟨1,o,none⟩=_ at this
  have hlt:o<cs'.size:=by
   rw[this]at hv
   exact(Array.getElem?_eq_some_iff.1 hv).1
  have h32:cs'.size=32:=by
   rw[zAe]at hl
   have c1:prog.cellsOf (z89.t 139)=32:=by kernel_rfl
   have c2:=z8x.c138
   rcases hl with hl|hl
   ·rw[hl,c1]
   ·rw[hl,c2]
  obtain⟨i,hi⟩:∃i,o=2*i∨o=2*i+1:=⟨o / 2,by omega⟩
  have hui:=hu.2 i (by omega)
  rcases hi with rfl|rfl
  ·rw[hui.1]at hv;exact⟨_,(Option.some.inj hv).symm⟩
  ·rw[hui.2]at hv;exact⟨_,(Option.some.inj hv).symm⟩
theorem y5s{w w':World}(h0:w'.heap[0]? =w.heap[0]?)(h1:w'.heap[1]? =w.heap[1]?)(h:Lib.Utf8Tabs 0 1 w):Lib.Utf8Tabs 0 1 w':=by
 have c0:∀o,w'.cell? ⟨0,o,none⟩=w.cell? ⟨0,o,none⟩:=fun o=>by simp only[World.cell?,h0]
 have c1:∀o,w'.cell? ⟨1,o,none⟩=w.cell? ⟨1,o,none⟩:=fun o=>by simp only[World.cell?,h1]
 refine⟨fun c hc=>?_,fun i hi=>?_⟩
 ·rw[c0];exact h.1 c hc
 ·rw[c1,c1];exact h.2 i hi
theorem zwx{W:World}(h:y6e W):∃τ:Tab,W.heap[0]? =some τ.o0∧W.heap[1]? =some τ.o1∧(∀x,τ.o0≠.deferred x)∧(∀x,τ.o1≠.deferred x):=by
 obtain⟨o0,a0,b0⟩:=h.e0
 obtain⟨o1,a1,b1⟩:=h.e1
 exact⟨⟨o0,o1,fun w h0 h1=>y5s (w:=W) (h0.trans a0.symm) (h1.trans a1.symm) h.u⟩,a0,a1,b0,b1⟩
theorem zda{H:Type}{enc:TypeId × Value→H}{W:World}{v:Value}{d:DataW H}{p:List MemPlace}{r:Reach}{b0:Nat}(hsep:∀g o v,zoz g→W.cell? ⟨g,o,none⟩=some v→∃z,v=.int .u8 z)(hval:Value.okWide prog W r b0 22 v)
 (h:DataW.Trod enc prog W 0 (fun _=>true) true 22 v d p):∃a:List Int,a.length≤9223372036854775807∧DR W zoz (ints a) v:=by
 obtain⟨ds,h1,_,h2⟩:=ztl hsep (G:=[22,3]) (by kernel_rfl) (by kernel_rfl) (by decide) hval h
 obtain⟨l,rfl,hl,_⟩:=h1.inv_list (e:=3) (fun x:Int=>[z2g x]) (fun _=>True) (by kernel_rfl) fun x hx=>by
  obtain⟨s,rfl,_⟩:=hx.inv_int (k:=.i64) (by kernel_rfl)
  exact⟨s,rfl,trivial⟩
 exact⟨l,hl,h2 _ rfl fun fs hs=>by
  have e:prog.underlying 22=some (.slice 3):=by kernel_rfl
  rw[e]at hs;simp at hs⟩
end Go.Proofs.YtonhfccmeammbaaGreatDoor
