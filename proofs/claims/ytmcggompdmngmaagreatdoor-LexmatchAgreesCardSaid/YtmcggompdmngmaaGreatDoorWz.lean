/- A part of the proof: G36 to G35. -/
import Derived.Test.YtmcggompdmngmaaGreatDoorWc
import Derived.Test.YtmcggompdmngmaaGreatDoorWs
import Derived.Lib.LaidU8
import Derived.Test.YtmcggompdmngmaaGreatDoorRows
import Derived.OpenShut
import Derived.LaidMore
import Derived.ProofKit
import Derived.Test.YtmcggompdmngmaaGreatDoorWw
set_option linter.all false
namespace Go.Proofs.YtmcggompdmngmaaGreatDoor
open Go.Ab Go.Rx Go.ChangeShapes Go.WideShapes Go.ChangeAt Go.RowKit
set_option maxHeartbeats 20000000
set_option maxRecDepth 100000
theorem ybc:fieldTypes Tryz.prog 51=some [3,3,3,48,49]:=by kernel_rfl
theorem yc3:Tryz.prog.underlying 49=some (.slice 51):=by kernel_rfl
theorem yak {ds:List D} (h:ShL Tryz.prog [21,21] ds):∃ a:Rg,ds=rgc a:=by
 obtain⟨a,_,rfl,h1,b,_,rfl,h2,rfl⟩:=h
 obtain⟨x,rfl,_⟩:=h1.inv_int (k:=.i32) (by kernel_rfl)
 obtain⟨y,rfl,_⟩:=h2.inv_int (k:=.i32) (by kernel_rfl)
 exact⟨(x,y),rfl⟩
theorem yat {ds:List D} (h:Sh Tryz.prog 48 ds):∃ l:List Rg,ds=[rgs l]∧l.length≤9223372036854775807:=by
 obtain⟨l,rfl,hl,_⟩:=h.inv_list (e:=47) rgc (fun _=>True) (by kernel_rfl) fun x hx=>by
  obtain⟨a,rfl⟩:=yak (hx.inv_fields (ts:=[21,21]) (by kernel_rfl))
  exact⟨a,rfl,trivial⟩
 exact⟨l,rfl,hl⟩
theorem zt0:∀ (xs:List (List D)),(∀ x∈xs,∃ e,x=rxc e∧fit e)→∃ l:List Rx,xs=l.map rxc∧zl2 l
 | [],_=>⟨[],rfl,by rw[zl2];trivial⟩
 | x::xs,h=>by
  obtain⟨e,rfl,he⟩:=h x (by simp)
  obtain⟨l,rfl,hl⟩:=zt0 xs fun y hy=>h y (by simp[hy])
  exact⟨e::l,rfl,by rw[zl2];exact⟨he,hl⟩⟩
theorem yau {t:TypeId} {ds:List D} (h:Sh Tryz.prog t ds):(t=51→∃ e,ds=rxc e∧fit e)∧(t=49→∃ l:List Rx,ds=[.slice (l.map rxc)]∧zl2 l∧l.length≤9223372036854775807):=by
 obtain⟨fs25,u25,m25⟩:=z5g ybc
 have u23:=yc3
 induction h with
 | int t k z hu h1 h2 =>
  exact zD113
 | bool t b hu =>
  exact zD113
 | str t s hu hs =>
  exact zD113
 | slice t e xs hu hl hx ih =>
  constructor
  · rintro rfl;rw[u25] at hu;simp at hu
  · rintro rfl
    rw[u23] at hu
    simp only[zAh,TypeDesc.slice.injEq] at hu
    subst hu
    obtain⟨l,rfl,hf⟩:=zt0 xs fun x hxx=>(ih x hxx).1 rfl
    refine⟨l,rfl,hf,?_⟩
    rw[zA4] at hl
    simp only[maxLen] at hl
    omega
 | struct t fs parts hu hl hp ih =>
  constructor
  · rintro rfl
    rw[u25] at hu
    simp only[zAh,TypeDesc.struct.injEq] at hu
    subst hu
    simp only[] at m25
    match fs,m25,hl,hp,ih with
    | [f0,f1,f2,f3,f4],m25,hl,hp,ih =>
     simp only[List.map_cons,List.map_nil,List.cons.injEq,and_true] at m25
     obtain⟨e0,e1,e2,e3,e4⟩:=m25
     match parts,hl,hp,ih with
     | [p0,p1,p2,p3,p4],_,hp,ih =>
      have q0:=hp 0 f0 p0 rfl rfl
      have q1:=hp 1 f1 p1 rfl rfl
      have q2:=hp 2 f2 p2 rfl rfl
      have q3:=hp 3 f3 p3 rfl rfl
      have q4:=(ih 4 f4 p4 rfl rfl).2 e4
      rw[e0] at q0
      rw[e1] at q1
      rw[e2] at q2
      rw[e3] at q3
      obtain⟨x0,rfl,_⟩:=q0.inv_int (k:=.i64) (by kernel_rfl)
      obtain⟨x1,rfl,_⟩:=q1.inv_int (k:=.i64) (by kernel_rfl)
      obtain⟨x2,rfl,_⟩:=q2.inv_int (k:=.i64) (by kernel_rfl)
      obtain⟨rs,rfl,hrs⟩:=yat q3
      obtain⟨ks,rfl,hks,hkl⟩:=q4
      refine⟨.mk x0 x1 x2 rs ks,by rw[z2k];rfl,?_⟩
      rw[fit]
      exact⟨hrs,hkl,hks⟩
  · rintro rfl;rw[u23] at hu;simp at hu
abbrev zi7:Nat→Prop:=fun g=>g=1∨g=2
theorem ya3 {H:Type} {enc:TypeId × Value→H} {W:World} {v:Value} {d:DataW H} {p:List MemPlace} {r:Reach} {b0:Nat} (hsep:∀ g o v,zi7 g→W.cell? ⟨g,o,none⟩=some v→∃ z,v=.int .u8 z) (hval:Value.okWide Tryz.prog W r b0 51 v)
 (h:DataW.Trod enc Tryz.prog W 0 (fun _=>true) true 51 v d p):∃ e:Rx,fit e∧DR W zi7 (Drx e) v:=by
 obtain⟨ds,h1,h2,_⟩:=zlb hsep (G:=[51,3,48,47,21,49]) (by kernel_rfl) (by kernel_rfl) (by decide) hval h
 obtain⟨fs,u25,_⟩:=z5g ybc
 obtain⟨e,rfl,he⟩:=(yau h1).1 rfl
 exact⟨e,he,h2 ⟨fs,u25⟩⟩
open Go.Ab Go.Rx Go.ChangeShapes Go.WideShapes Go.ChangeAt Go.RowKit Go.Lib
abbrev yac:List (String × DataW Unit):=[("unicode/utf8.acceptRanges",Rows.laid_unicode_utf8_acceptRanges),("unicode/utf8.first",Rows.laid_unicode_utf8_first)]
theorem y7e:(Rows.laid_unicode_utf8_acceptRanges:DataW Unit)=acceptData:=by kernel_rfl
theorem zw9:Rows.laid_unicode_utf8_first=firstData:=by kernel_rfl
theorem z7c:U8Extra Tryz.prog z6u:=⟨by kernel_rfl,by kernel_rfl,by kernel_rfl,by kernel_rfl,by kernel_rfl,by kernel_rfl,by kernel_rfl⟩
theorem zsx {H:Type} {enc:TypeId × Value→H} {P:Program} {w:World} {base:Nat} {sp:Nat→Bool} {held:Bool} {fuel:Nat} {t e:TypeId} {n:Nat} {cs:List Value} {ds:List (DataW H)} {p:List MemPlace} (ht:P.underlying t=some (.array n e))
 (h:DataW.trod enc P w base sp held fuel t cs=some (.agg ds,p)):cs.length=P.cellsOf t∨cs.length=n*P.cellsOf e:=by
 cases fuel with
 | zero=>simp[DataW.trod] at h
 | succ fuel =>
  simp only[DataW.trod,ht] at h
  split at h
  · rename_i hc
    first
     | exact .inl (by simpa using hc)
     | exact .inr (by simpa using hc)
  · cases h
structure ybi (W:World):Prop where
 u:Lib.Utf8Tabs 1 2 W
 sep:∀ g o v,zi7 g→W.cell? ⟨g,o,none⟩=some v→∃ z,v=.int .u8 z
 e0:∃ o,W.heap[1]? =some o∧∀ x,o≠.deferred x
 e1:∃ o,W.heap[2]? =some o∧∀ x,o≠.deferred x
theorem zni {P:Program} {w:World} {n:String} {g:Nat} {cs:Array Value} (hg:P.globalNamed n=some g) (h:w.var? P n=some cs):∃ o,w.heap[g]? =some o∧∀ x,o≠.deferred x:=by
 simp only[World.var?,hg,Option.bind_some] at h
 split at h
 · rename_i a b c hh
   exact⟨_,hh,fun x e=>by cases e⟩
 · cases h
theorem y0t {W:World} (hL:laidMetH Tryz.prog yac W):ybi W:=by
 rw[MakeChecks.laidMetH_plain _ _ _ (by kernel_rfl)] at hL
 have h4:=Lib.laidMet.reads hL (n:= "unicode/utf8.acceptRanges") (.head _)
 have h3:=Lib.laidMet.reads hL (n:= "unicode/utf8.first") (.tail _ (.head _))
 rw[y7e] at h4
 rw[zw9] at h3
 have hu:Lib.Utf8Tabs 1 2 W:=utf8Tabs_of_reads (ρ:=z6u) zfr z7c h3 h4
 obtain⟨g,t,cs,fuel,p,hg,hty,hvar,hd⟩:=h3
 obtain⟨g',t',cs',fuel',p',hg',hty',hvar',hd'⟩:=h4
 obtain rfl:=Option.some.inj (z7c.n3.symm.trans hg)
 obtain rfl:=Option.some.inj (z7c.y3.symm.trans hty)
 obtain rfl:=Option.some.inj (z7c.n4.symm.trans hg')
 obtain rfl:=Option.some.inj (z7c.y4.symm.trans hty')
 refine⟨hu,fun g o v hown hv=>?_,zni hg hvar,zni hg' hvar'⟩
 rcases hown with rfl|rfl
 · have hcs:=cells_of_tab zfr.t119 zfr.t5 z7c.c5 z7c.c119 hd
   have:=World.var?_cell hg hvar o
   change W.cell? ⟨1,o,none⟩=_ at this
   rw[this,← Array.getElem?_toList,hcs] at hv
   rw[zAd] at hv
   cases hz:firstTab[o]? with
   | none=>rw[hz] at hv;simp at hv
   | some z=>rw[hz] at hv;simp at hv;exact⟨z,hv.symm⟩
 · have hl:=zsx zfr.t139 hd'
   have:=World.var?_cell hg' hvar' o
   change W.cell? ⟨2,o,none⟩=_ at this
   have hlt:o<cs'.size:=by
    rw[this] at hv
    exact(Array.getElem?_eq_some_iff.1 hv).1
   have h32:cs'.size=32:=by
    rw[zAe] at hl
    have c1:Tryz.prog.cellsOf (z6u.t 139)=32:=by kernel_rfl
    have c2:=z7c.c138
    rcases hl with hl|hl
    · rw[hl,c1]
    · rw[hl,c2]
   obtain⟨i,hi⟩:∃ i,o=2*i∨o=2*i+1:=⟨o / 2,by omega⟩
   have hui:=hu.2 i (by omega)
   rcases hi with rfl|rfl
   · rw[hui.1] at hv;exact⟨_,(Option.some.inj hv).symm⟩
   · rw[hui.2] at hv;exact⟨_,(Option.some.inj hv).symm⟩
theorem yao {w w':World} (h0:w'.heap[1]? =w.heap[1]?) (h1:w'.heap[2]? =w.heap[2]?) (h:Lib.Utf8Tabs 1 2 w):Lib.Utf8Tabs 1 2 w':=by
 have c0:∀ o,w'.cell? ⟨1,o,none⟩=w.cell? ⟨1,o,none⟩:=fun o=>by simp only[World.cell?,h0]
 have c1:∀ o,w'.cell? ⟨2,o,none⟩=w.cell? ⟨2,o,none⟩:=fun o=>by simp only[World.cell?,h1]
 refine⟨fun c hc=>?_,fun i hi=>?_⟩
 · rw[c0];exact h.1 c hc
 · rw[c1,c1];exact h.2 i hi
theorem y5i {W:World} (h:ybi W):∃ τ:Tab,W.heap[1]? =some τ.o0∧W.heap[2]? =some τ.o1∧(∀ x,τ.o0≠.deferred x)∧(∀ x,τ.o1≠.deferred x):=by
 obtain⟨o0,a0,b0⟩:=h.e0
 obtain⟨o1,a1,b1⟩:=h.e1
 exact⟨⟨o0,o1,fun w h0 h1=>yao (w:=W) (h0.trans a0.symm) (h1.trans a1.symm) h.u⟩,a0,a1,b0,b1⟩
end Go.Proofs.YtmcggompdmngmaaGreatDoor
namespace Go.Proofs.YtmcggompdmngmaaGreatDoor
open Go.Ab Go.Rx
set_option maxHeartbeats 20000000
set_option maxRecDepth 100000
attribute [local irreducible] Run Ops Op1 z14 Val Tr z0d z0w NF Rel z1z z27 z5x
theorem zd6 (e:Rx) (hf:fit e):z0d Tryz.prog 61 [.d (Drx e)] (I .i64 (val e)):=by
 refine z0y fun H=>?_
 have hsh:=y2t e hf 1 (by decide) (by decide)
 have hvs:=y64 e
 have hss:=zse.1 e 1 (by decide)
 have hpo:=zbi e hf
 obtain⟨V,hV⟩:∃ V,val e=V:=⟨_,rfl⟩
 rw[hV] at hvs ⊢
 have hvn:¬ (200<(sh e 1).1∨40<(sh e 1).2.1)→(sh e 1).2.2=true→vns e=true:=fun h1 h2=>by
  by_cases hc:(1:Int)+dp e≤41∧sz e≤200
  · rw[zAz hc] at hss;rw[hss] at h2;exact h2
  · rw[zAy hc] at hss;exact absurd hss h1
 generalize sh e 1=S at *
 obtain⟨n,c,b⟩:=S
 simp only at hvs hvn
 by_cases h1:200<n∨40<c
 · rw[zAz h1] at hvs
   exact zD56
 · rw[zAy h1] at hvs
   cases b with
   | false =>
    rw[zAz rfl] at hvs
    exact zD56
   | true =>
    rw[zAy (by decide)] at hvs
    have hpo:=hpo (hvn h1 rfl)
    generalize ps 1048576 e=P at *
    obtain⟨op,mn,mx,rs,ks⟩:=e
    rw[z2h] at hsh hpo ⊢
    dsimp only[shv] at hsh
    subst hvs
    refine z08 Tryz.func61 (by kernel_rfl) rfl (by simp) ?_
    dsimp only[Tryz.f61]
    by_cases hp:64<P
    · rw[zAz hp]
      all_goals exact zD98
    · rw[zAy hp]
      all_goals exact zD98
end Go.Proofs.YtmcggompdmngmaaGreatDoor
