/- A part of the proof: Core28 to Core53. -/
import Derived.Test.YtonhfccmeammbaaGreatDoorOb
import Derived.ProofKit
import Derived.WalkSpells
import Derived.Lib.SliceRun
import Derived.Laws.BytesArg
import Derived.Sort.Row
import Derived.Sort.Grow
import Derived.Laws.Pointers
set_option linter.all false
namespace Go.Ab
variable {P:Program} {f:FuncId} {R:z2v} {k:List Item} {all:Array Oper} {o:Oper} {l:List Oper}
variable {n:Nat} {tm:List (Nat × PV)} {hp:Hp} {up:Hf} {d:Nat} {ty:TypeId} {pos:String} {aft:Array Edge} {gd:Option (Nat × Bool)} {op:Op} {p:PV}
abbrev fnD (g:FuncId):D:=.lit (.func (.func g) #[] #[])
def asF:PV→PV
 | .fn g [] []=>.d (.lit (.func g #[] #[]))
 | p=>p
theorem zik {β:Nm→Value} {w:World} {own:Nat→Prop} {p:PV} {v:Value} (h:PR β w own p v):PR β w own (asF p) v:=by
 unfold asF
 split
 · cases h with
   | fn _ _ _ fv cv hl hl' hd hd' =>
    have e1:fv=[]:=by simpa using hl.symm
    have e2:cv=[]:=by simpa using hl'.symm
    subst e1;subst e2
    exact .d _ _ (.lit _ rfl)
 · exact h
theorem zir {s:St} {β:Nm→Value} {own:Nat→Prop} {a:Act} {w:World} (hr:Rep s β own a w) {g:FuncId} {fo:Operand} {args:List Operand} {ps:List PV} {ats:Array TypeId} (hfo:s.ev fo=some (.d (fnD g))) (hev:s.evs args=some ps) (hp:Plain P g)
 {dst:Option Tmp}:∃ vals:List Value,(execOp a.eval ⟨dst,.call ⟨.value fo,args.toArray,ats⟩,ty,pos,aft,gd⟩).run P w=.ok (.enter g vals.toArray) w∧z6c β w own ps vals:=by
 obtain⟨fn,hfn,hname,hbody⟩:=hp
 have h:=hr.ev hfo
 have hv:a.eval fo=.func (.func g) #[] #[]:=h.lit
 refine⟨args.map a.eval,?_,hr.evs hev⟩
 exact zD13
theorem ze4 {i:Nat} {s:St} {g:FuncId} {fo:Operand} {args:List Operand} {ps:List PV} {ats:Array TypeId} (ho:all[i]? =some ⟨some d,.call ⟨.value fo,args.toArray,ats⟩,ty,pos,aft,gd⟩)
 (hw:∀ β own a w,Rep s β own a w→Region.wanted ⟨some d,.call ⟨.value fo,args.toArray,ats⟩,ty,pos,aft,gd⟩ (yielded all a.tmps)=true)
 (hfo:s.ev fo=some (.d (fnD g))) (hev:s.evs args=some ps) (hsp:z0j P g ps p) (hd:d<s.n) :
 zfd P f R all k i s (s.app ⟨[],[],[],[(d,p)],[]⟩):=by
 intro is h β own a w hrep b hb hk hn cs
 have hsp:=hsp (push s.hp s.up)
 obtain⟨vals,hrun,hargs⟩:=zir hrep hfo hev hsp.plain (dst:=some d) (ats:=ats) (ty:=ty) (pos:=pos) (aft:=aft) (gd:=gd)
 obtain⟨e,w',fr,⟨v,r,H,own',rfl,⟨rfl,rfl⟩,hrv,hheap,hext⟩,hsteps,_,hleave⟩:=hsp.run β own w vals hrep.heap hargs (am b a (.inRegion all (i::is)::k)::cs)
 cases hrv with
 | v _ _ hpv =>
  have hr':Rep s β own' a w':=⟨hrep.size,hrep.defers,fun t q hq=>(hrep.tm t q hq).mono hext,hheap⟩
  have hr2:=hr'.put (dst:=some d) (p:=p) (v:=v) (by simp[St.fits,hd]) hpv
  exact((h β own' _ w' hr2 b hb hk hn cs).ext hext).of_steps (zdn ho (hw β own a w hrep) hrun hsteps hleave)
theorem zcd {id:Nat} {ops:List Oper} {s0:St} {done:List Eff} {gr:List (Nat × PV)} {g:FuncId} {fo:Operand} {args:List Operand} {ps:List PV} {ats:Array TypeId} (hg:GOK ops.toArray gd gr ⟨n,tm,hp,up⟩)
 (hfo:St.ev ⟨n,tm,hp,up⟩ fo=some (.d (fnD g))) (hsp:z0j P g ps p) (hev:St.evs ⟨n,tm,hp,up⟩ args=some ps) (hd:d<n)
 (h:Tr P f R id ops k s0 (done++[⟨gr++rd ((fo,.d (fnD g))::args.zip ps),[],[],[(d,p)],[]⟩]) ⟨n,(d,p)::tm,hp,up⟩ l) :
 Tr P f R id ops k s0 done ⟨n,tm,hp,up⟩ (⟨some d,.call ⟨.value fo,args.toArray,ats⟩,ty,pos,aft,gd⟩::l):=by
 obtain⟨hz1,hz2⟩:=z4d hev
 have hz0:Evs ⟨n,tm,hp,up⟩ ((fo,.d (fnD g))::args.zip ps):=⟨hfo,hz1⟩
 refine z8p (e:=⟨gr++rd ((fo,.d (fnD g))::args.zip ps),[],[],[(d,p)],[]⟩) (fun i hi s1 hn hs1=>?_) ⟨fun q hq=>?_,by simp,by simp⟩ rfl h
 · have h1:Evs s1 ((fo,.d (fnD g))::args.zip ps):=z35 hz0 fun q hq=>hs1.ins q (by simp[hq])
   exact ze4 hi (fun β own a w hr=>hg.wanted (fun q hq=>hs1.ins q (by simp[hq])) rfl hr) h1.1 (hz2 s1 h1.2) hsp (by rw[hn];exact hd)
 · exact zD28
theorem zdd {t e:TypeId} {ti te:TI} [ht:z0x P t ti] [he:z0x P e te] {len:Nat} {l:List (Nat × Operand)} {qs:List (Nat × List PV)} {cs:List PV} {ds:List D} {xs:List (List D)} (hq:St.parts ⟨n,tm,hp,up⟩ l=some qs) (hok:St.okParts ⟨n,tm,hp,up⟩ l=true)
 (hf:z3c (fun i=>some (i*te.size,te.size)) (z3i te.zero (len*te.size)) qs=some cs) (hm:z4q (cs.map asF)=some ds) (hxs:chunk te.size len ds=xs) (hk:ti.kind=.slice e)
 (hz:z6e te len=true) (hd:d<n) :
 z1r P ⟨some d,.buildSlice t len l.toArray,ty,pos,aft,gd⟩ ⟨n,tm,hp,up⟩ ⟨n,(d,.d (.slice xs))::tm,hp,up⟩ :=
 z6s rfl hd fun β own a w hr=>by
  simp only[z6e,zA7,beq_iff_eq,bne_iff_ne,zA3] at hz
  obtain⟨⟨⟨z1,z2⟩,z3⟩,z4⟩:=hz
  obtain⟨h1,h2⟩:=hr.parts l qs hq hok
  have hl:(l.toArray.map fun x=>(x.1,a.eval x.2)).toList=l.map fun x=>(x.1,a.eval x.2):=by simp
  obtain⟨vs,hrun,hcr,hvl⟩:=z3s (P:=P) ht he hk z1 z2 z3 z4 (β:=β) (w:=w) (own:=own) (l.toArray.map fun x=>(x.1,a.eval x.2)) qs (by rw[hl];exact h1) (by rw[hl];exact h2) hf
  have hcr':CR β w own (cs.map asF) vs:=⟨by simpa using hcr.1,hcr.2.1,fun j x v hx hv=>by
   rw[zAb] at hx
   cases hc:cs[j]? with
   | none=>rw[hc] at hx;cases hx
   | some c=>rw[hc] at hx;simp at hx;subst hx;exact zik (hcr.2.2 j c v hc hv)⟩
  replace hcr:=z3l hcr' hm
  exact zD30
theorem z8n {t e:TypeId} {ti te:TI} {lp:List (Nat × Operand)} {ps:List PV} {qs:List (Nat × List PV)} {cs:List PV} {len:Nat} {ds:List D} {ys:List (List D)} [ht:z0x P t ti] [he:z0x P e te] (hk:ti.kind=.slice e) (hev:St.evs ⟨n,tm,hp,up⟩ (lp.map (·.2))=some ps) (hq:z1s lp ps=some qs) (hn:z2x ps=true) (hf:z3c (fun i=>some (i*te.size,te.size)) (z3i te.zero (len*te.size)) qs=some cs)
 (hm:z4q (cs.map asF)=some ds) (hxs:chunk te.size len ds=ys) (hz:z6e te len=true) (hd:d<n) (h:Ops P f R all l k ⟨n,(d,.d (.slice ys))::tm,hp,up⟩) :
 Op1 P f R all ⟨some d,.buildSlice t len lp.toArray,ty,pos,aft,gd⟩ l k ⟨n,tm,hp,up⟩ :=
 let ⟨h1,h2⟩:=z59 (evE (z37 hev)) hq hn
 z0g (zdd h1 h2 hf hm hxs hk hz hd) h
end Go.Ab
namespace Go.Ab
open Go.ChangeShapes Go.WideShapes Go.ChangeAt Go.RowKit
theorem Ext.toBelow {w w':World} {own':Nat→Prop} (h:Ext w (fun _=>False) w' own'):Below w.heap.size w w' :=
 ⟨h.os,h.tape,h.output,h.size,fun k hk=>h.block k hk (fun f=>f)⟩
theorem Below.kept {w w':World} (h:Below w.heap.size w w') (may:MemPlace→Prop):w.keptBut w' may:=by
 refine⟨h.os,h.output,fun i hi=>?_⟩
 rw[h.block i hi]
 cases hb:w.heap[i]? with
 | none=>rfl
 | some o=>cases o <;> simp
section
variable {H:Type} {enc:TypeId × Value→H} {P:Program}
theorem z5x (hl:laidOutB P=true) {W W':World} (hb:Below W.heap.size W W'):∀ {ts:List TypeId} {vs:List Value} {ds:List (DataW H)} {ps:List MemPlace},
 ts.all (fun t=>P.readableRec t&&decide (t<P.types.size))=true→(∀ x∈ps,x.block<W.heap.size)→DataW.TrodAll enc P W 0 (fun _=>true) true ts vs ds ps →
 DataW.TrodAll enc P W' 0 (fun b=>decide (b<W.heap.size)) true ts vs ds ps
 | [],vs,ds,ps,_,_,h=>by
  obtain⟨rfl,rfl,rfl⟩:=trodAll_nil h
  exact trodAll_mk0
 | t::ts,vs,ds,ps,hp,hlt,h=>by
  obtain⟨v,vs',d,ds',p,q,rfl,rfl,rfl,h1,h2⟩:=trodAll_cons h
  simp only[List.all_cons,zA7,zA3] at hp
  exact⟨p,q,Below.trod hl hp.1.1 hp.1.2 h1 hb (fun x hx=>hlt x (by simp[hx])),z5x hl hb hp.2 (fun x hx=>hlt x (by simp[hx])) h2,rfl⟩
theorem zf1 {fn:Func} {s:ChangeSpec} {W W':World} {own':Nat→Prop} {args:Array Value} {ds gs:List (DataW H)} {before:List MemPlace} {tb:TypeId} (hl:laidOutB P=true)
 (hp:fn.params.toList.all (fun t=>P.readableRec t&&decide (t<P.types.size))=true) (hW:DataW.Whole enc P fn.params.toList s.vars false W args.toList ds gs before) (hE:Ext W (fun _=>False) W' own')
 (hv:s.vars=[]) (hs:s.fn H ds={ results:=[.lit (.bool true)],args:=ds }) (hr:fn.resultTypes=#[tb]) (hb:P.underlying tb=some .bool) :
 s.post enc P fn false true false false W args (.bool true) W':=by
 have hlt:=hW.lt
 have hW':=hW
 obtain⟨p,q,hA,hV,rfl,hfz,hnd⟩:=hW
 rw[hv] at hV
 obtain⟨rfl,rfl⟩:=trodVars_none hV
 simp only[List.append_nil] at hlt hfz hnd hW'
 refine⟨ds,[],p,[],p,[],hW',?_,?_,?_,Below.kept hE.toBelow _,fun h=>by cases h⟩
 · rw[List.append_nil,hs,hr]
   exact trodAll_mk1 (shut_bool hb _)
 · rw[List.append_nil,hs]
   exact z5x hl hE.toBelow hp hlt hA
 · rw[List.append_nil,hs,hv]
   rfl
theorem zin {W:World} {t e:TypeId} {k:IntKind} {v:Value} {d:DataW H} {p:List MemPlace} (ht:P.underlying t=some (.slice e)) (he:P.underlying e=some (.int k)) (hc:P.cellsOf e=1) {r:Reach} {b0:Nat} (hval:Value.okWide P W r b0 t v)
 (h:DataW.Trod enc P W 0 (fun _=>true) true t v d p):∃ zs:List Int,zs.length≤9223372036854775807∧DR W (fun _=>False) (.slice (zs.map fun x=>[.lit (.int k x)])) v:=by
 obtain⟨fuel,h⟩:=h
 obtain⟨a,len,cap,rfl⟩:=okWide_slice ht hval
 rcases open_ints ht he hc h with ⟨hcs,hx⟩|⟨a',len',cap',zs,hcs,hb,hl,hm,hzl,hx,hcell,hwf⟩
 · simp[Value.cells] at hcs
   obtain⟨rfl,rfl,rfl⟩:=hcs
   exact⟨[],by simp,.nil none 0⟩
 · simp[Value.cells] at hcs
   obtain⟨rfl,rfl,rfl⟩:=hcs
   simp only[if_true] at hzl
   refine⟨zs.take len,by simp[maxLen] at hm ⊢;omega,?_⟩
   by_cases h0:len=0
   · subst h0
     simp only[List.take_zero,List.map_nil]
     exact .nil _ cap
   · obtain⟨g,o,sp⟩:=a'
     have hc0:=hcell 0 (by omega)
     simp only[Addr.add,if_true,World.cell?] at hc0
     have hg:g<W.heap.size:=by
      cases hq:W.heap[g]? with
      | none=>rw[hq] at hc0;simp at hc0
      | some q=>exact(Array.getElem?_eq_some_iff.1 hq).1
     have hsp:sp=none:=by
      cases sp with
      | none=>rfl
      | some q =>
       cases hq:W.heap[g]? with
       | none=>rw[hq] at hc0;simp at hc0
       | some b=>rw[hq] at hc0;cases b <;> simp at hc0
     subst hsp
     have hlen:((zs.take len).map fun x=>[D.lit (.int k x)]).length=len:=by simp;omega
     have:=DR.slice (w:=W) (own:=fun _=>False) ((zs.take len).map fun x=>[D.lit (.int k x)]) g o cap 1 (fun i _=>.int k (zs.getD i 0)) (by rw[hlen];exact hl) (fun f=>f) hg
      (by intro x hx;simp only[List.mem_map] at hx;obtain⟨y,_,rfl⟩:=hx;rfl)
      (by
        intro i hi j hj
        rw[hlen] at hi
        obtain rfl:j=0:=by omega
        have:=hcell i (by omega)
        rw[Go.Ab.z3a] at this
        simp only[Nat.mul_one,Nat.add_zero]
        exact⟨this,rfl⟩)
      (by
        intro i x hx j y hy
        have hi:i<len:=by have:=(zA1.1 hx).1;rw[hlen] at this;exact this
        rw[zAb,List.getElem?_take,zAs hi] at hx
        obtain⟨z,hz⟩:∃ z,zs[i]? =some z:=⟨_,zA0 (by omega)⟩
        rw[hz] at hx
        simp at hx;subst hx
        cases j with
        | succ j=>simp at hy
        | zero =>
         simp at hy;subst hy
         rw[List.getD,hz]
         exact .lit _ rfl)
     rw[hlen] at this
     exact this
end
theorem zhm {P:Program} {f:FuncId} {ps:List PV} {vs:List Value} (h:z0j P f ps (B true)) (W:World) (hl:ps.length=vs.length) (ha:∀ (j:Nat) (p:PV) (v:Value),ps[j]? =some p→vs[j]? =some v→PR (fun _=>undef) W (fun _=>False) p v) :
 Calls P f vs.toArray W fun e W'=>e=.returned (.bool true)∧∃ own',Ext W (fun _=>False) W' own':=by
 have h0:HR (fun _ _=>none) (fun _=>undef) (fun _=>False) W:=by
  refine⟨fun n b hb=>?_,fun n m bn bm hn=>?_,fun g hg=>hg.elim⟩
  · cases n with|mk a b'=>cases a <;> simp[z19] at hb
  · cases n with|mk a b'=>cases a <;> simp[z19] at hn
 refine((h (fun _ _=>none)).run (fun _=>undef) (fun _=>False) W vs h0 ⟨hl,ha⟩).mono fun e W' ⟨v,r,H',own',he,⟨hr,_⟩,hv,_,hE⟩=>?_
 subst hr
 cases hv with
 | v _ _ hp=>exact⟨by rw[he,PR.lit hp],own',hE⟩
end Go.Ab
namespace Go.Ab
open Go.ChangeShapes Go.WideShapes Go.ChangeAt Go.RowKit
def CD (w:World) (own:Nat→Prop) (ds:List D) (cs:List Value):Prop :=
 ds.length=cs.length∧(∀ v∈cs,v.oneCell'=true)∧∀ (j:Nat) (x:D) (v:Value),ds[j]? =some x→cs[j]? =some v→DR w own x v
theorem CD.one {w:World} {own:Nat→Prop} {x:D} {v:Value} (h:DR w own x v) (h1:v.oneCell'=true):CD w own [x] [v] :=
 ⟨rfl,by simpa using h1,fun j y u hy hu=>by
   cases j with
   | zero=>simp at hy hu;subst hy;subst hu;exact h
   | succ j=>simp at hy⟩
theorem CD.nil {w:World} {own:Nat→Prop}:CD w own [] []:=⟨rfl,by simp,by simp⟩
variable {H:Type} {enc:TypeId × Value→H} {P:Program}
end Go.Ab
namespace Go.Ab
variable {P:Program} {f:FuncId} {R:z2v} {k:List Item}
variable {n:Nat} {tm:List (Nat × PV)} {hp:Hp} {up:Hf}
theorem PR.take {β:Nm→Value} {w:World} {own:Nat→Prop} {m:Nm} {y:Nat} {p:PV} {v:Value} (h:PR β w own p v) (hs:p.says (0,y)=false):PR (z49 β y (β m)) w own (p.take m y) v:=by
 have h2:=h.reβ (β':=z49 β y (β m)) (0,y) (z29 β y _) hs
 cases p with
 | ptr q off =>
  simp only[PV.take]
  split
  · rename_i e;simp at e;subst e
    cases h with|ptr _ _ g hg=>exact .ptr _ _ g (by rw[z1o];exact hg)
  · exact h2
 | _=>exact h2
end Go.Ab
namespace Go.Ab
variable {P:Program} {ty tx ty':TypeId} {x y z:Operand}
theorem z0x.ptr {t:TypeId} {ti:TI} (h:z0x P t ti) {e:TypeId} (hk:ti.kind=.ptr e):P.underlying t=some (.pointer (P.pointee t)):=by
 have h0:P.underlying t=some (.pointer e):=by
  exact zD12
 have:P.pointee t=e:=by simp[Program.pointee,h0]
 rw[this];exact h0
end Go.Ab
