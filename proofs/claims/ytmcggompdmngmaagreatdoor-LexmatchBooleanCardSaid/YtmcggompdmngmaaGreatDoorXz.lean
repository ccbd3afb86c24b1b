/- A part. -/
import Derived.Test.YtmcggompdmngmaaGreatDoorXs
import Derived.Lib.LaidU8
import Derived.Test.YtmcggompdmngmaaGreatDoorRows
import Derived.OpenShut
import Derived.LaidMore
set_option linter.all false
open Go.Proofs.Tryz
namespace Go.Proofs.YtmcggompdmngmaaGreatDoor
open Go.Ab Go.Rx Go.ChangeShapes Go.WideShapes Go.ChangeAt Go.RowKit
set_option maxHeartbeats 20000000
set_option maxRecDepth 100000
abbrev zk9:Nat→Prop:=fun g=>g=1∨g=2
open Go.Ab Go.Rx Go.ChangeShapes Go.WideShapes Go.ChangeAt Go.RowKit Go.Lib
abbrev ybw:List (String × DataW Unit):=[("unicode/utf8.acceptRanges",Rows.laid_unicode_utf8_acceptRanges),("unicode/utf8.first",Rows.laid_unicode_utf8_first)]
theorem yat:(Rows.laid_unicode_utf8_acceptRanges:DataW Unit)=acceptData:=by kernel_rfl
theorem zzo:Rows.laid_unicode_utf8_first=firstData:=by kernel_rfl
theorem z7u:U8Extra prog z6u:=⟨by kernel_rfl,by kernel_rfl,by kernel_rfl,by kernel_rfl,by kernel_rfl,by kernel_rfl,by kernel_rfl⟩
theorem zrq{H:Type}{enc:TypeId × Value→H}{P:Program}{w:World}{base:Nat}{sp:Nat→Bool}{held:Bool}{fuel:Nat}{t e:TypeId}{n:Nat}{cs:List Value}{ds:List (DataW H)}{p:List MemPlace}(ht:P.underlying t=some (.array n e))
 (h:DataW.trod enc P w base sp held fuel t cs=some (.agg ds,p)):cs.length=P.cellsOf t∨cs.length=n*P.cellsOf e:=by
 cases fuel with
 | zero=>simp[DataW.trod]at h
 | succ fuel =>
  simp only[DataW.trod,ht]at h
  split at h
  ·rename_i hc
   first
    | exact .inl (by simpa using hc)
    | exact .inr (by simpa using hc)
  ·cases h
structure ydl(W:World):Prop where
 u:Lib.Utf8Tabs 1 2 W
 sep:∀g o v,zk9 g→W.cell? ⟨g,o,none⟩=some v→∃z,v=.int .u8 z
 e0:∃o,W.heap[1]? =some o∧∀x,o≠.deferred x
 e1:∃o,W.heap[2]? =some o∧∀x,o≠.deferred x
theorem zpt{P:Program}{w:World}{n:String}{g:Nat}{cs:Array Value}(hg:P.globalNamed n=some g)(h:w.var? P n=some cs):∃o,w.heap[g]? =some o∧∀x,o≠.deferred x:=by
 simp only[World.var?,hg,Option.bind_some]at h
 split at h
 ·rename_i a b c hh
  exact⟨_,hh,fun x e=>by cases e⟩
 ·cases h
theorem y4s{W:World}(hL:laidMetH prog ybw W):ydl W:=by
 rw[MakeChecks.laidMetH_plain _ _ _ (by kernel_rfl)]at hL
 have h4:=Lib.laidMet.reads hL (n:= "unicode/utf8.acceptRanges") (.head _)
 have h3:=Lib.laidMet.reads hL (n:= "unicode/utf8.first") (.tail _ (.head _))
 rw[yat]at h4
 rw[zzo]at h3
 have hu:Lib.Utf8Tabs 1 2 W:=utf8Tabs_of_reads (ρ:=z6u) zi8 z7u h3 h4
 obtain⟨g,t,cs,fuel,p,hg,hty,hvar,hd⟩:=h3
 obtain⟨g',t',cs',fuel',p',hg',hty',hvar',hd'⟩:=h4
 obtain rfl:=Option.some.inj (z7u.n3.symm.trans hg)
 obtain rfl:=Option.some.inj (z7u.y3.symm.trans hty)
 obtain rfl:=Option.some.inj (z7u.n4.symm.trans hg')
 obtain rfl:=Option.some.inj (z7u.y4.symm.trans hty')
 refine⟨hu,fun g o v hown hv=>?_,zpt hg hvar,zpt hg' hvar'⟩
 rcases hown with rfl|rfl
 ·have hcs:=cells_of_tab zi8.t119 zi8.t5 z7u.c5 z7u.c119 hd
  have:=World.var?_cell hg hvar o
  change W.cell? ⟨1,o,none⟩=_ at this
  rw[this,←Array.getElem?_toList,hcs]at hv
  rw[zAd]at hv
  cases hz:firstTab[o]? with
  | none=>rw[hz]at hv;simp at hv
  | some z=>rw[hz]at hv;simp at hv;exact⟨z,hv.symm⟩
 ·have hl:=zrq zi8.t139 hd'
  have:=World.var?_cell hg' hvar' o
  change W.cell? ⟨2,o,none⟩=_ at this
  have hlt:o<cs'.size:=by
   rw[this]at hv
   exact(Array.getElem?_eq_some_iff.1 hv).1
  have h32:cs'.size=32:=by
   rw[zAe]at hl
   have c1:prog.cellsOf (z6u.t 139)=32:=by kernel_rfl
   have c2:=z7u.c138
   rcases hl with hl|hl
   ·rw[hl,c1]
   ·rw[hl,c2]
  obtain⟨i,hi⟩:∃i,o=2*i∨o=2*i+1:=⟨o / 2,by omega⟩
  have hui:=hu.2 i (by omega)
  rcases hi with rfl|rfl
  ·rw[hui.1]at hv;exact⟨_,(Option.some.inj hv).symm⟩
  ·rw[hui.2]at hv;exact⟨_,(Option.some.inj hv).symm⟩
theorem yc0{w w':World}(h0:w'.heap[1]? =w.heap[1]?)(h1:w'.heap[2]? =w.heap[2]?)(h:Lib.Utf8Tabs 1 2 w):Lib.Utf8Tabs 1 2 w':=by
 have c0:∀o,w'.cell? ⟨1,o,none⟩=w.cell? ⟨1,o,none⟩:=fun o=>by simp only[World.cell?,h0]
 have c1:∀o,w'.cell? ⟨2,o,none⟩=w.cell? ⟨2,o,none⟩:=fun o=>by simp only[World.cell?,h1]
 refine⟨fun c hc=>?_,fun i hi=>?_⟩
 ·rw[c0];exact h.1 c hc
 ·rw[c1,c1];exact h.2 i hi
theorem y8m{W:World}(h:ydl W):∃τ:Tab,W.heap[1]? =some τ.o0∧W.heap[2]? =some τ.o1∧(∀x,τ.o0≠.deferred x)∧(∀x,τ.o1≠.deferred x):=by
 obtain⟨o0,a0,b0⟩:=h.e0
 obtain⟨o1,a1,b1⟩:=h.e1
 exact⟨⟨o0,o1,fun w h0 h1=>yc0 (w:=W) (h0.trans a0.symm) (h1.trans a1.symm) h.u⟩,a0,a1,b0,b1⟩
end Go.Proofs.YtmcggompdmngmaaGreatDoor
