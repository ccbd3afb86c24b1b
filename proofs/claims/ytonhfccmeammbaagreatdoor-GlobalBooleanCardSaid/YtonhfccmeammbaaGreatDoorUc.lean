/- A part of the proof: Core28 to Core91. -/
import Derived.Test.YtonhfccmeammbaaGreatDoorUb
import Derived.WalkSpells
import Derived.Lib.SliceRun
import Derived.Laws.BytesArg
import Derived.ProofKit
import Derived.Sort.Row
import Derived.Sort.Grow
import Derived.Laws.Pointers
import Derived.ArgAppend
import Derived.Below
import Derived.Shelf.GgSortFunc.InsertionK
import Derived.Lib.AppendStr
set_option linter.all false
namespace Go.Ab
variable {P:Program} {f:FuncId} {R:z3x} {k:List Item} {all:Array Oper} {o:Oper} {l:List Oper}
variable {n:Nat} {tm:List (Nat × PV)} {hp:Hp} {up:Hf} {d:Nat} {ty:TypeId} {pos:String} {aft:Array Edge} {gd:Option (Nat × Bool)} {op:Op} {p:PV}
abbrev fnD (g:FuncId):D:=.lit (.func (.func g) #[] #[])
def asF:PV→PV
 | .fn g [] []=>.d (.lit (.func g #[] #[]))
 | p=>p
theorem zss {β:Nm→Value} {w:World} {own:Nat→Prop} {p:PV} {v:Value} (h:PR β w own p v):PR β w own (asF p) v:=by
 unfold asF
 split
 · cases h with
   | fn _ _ _ fv cv hl hl' hd hd' =>
    have e1:fv=[]:=by simpa using hl.symm
    have e2:cv=[]:=by simpa using hl'.symm
    subst e1;subst e2
    exact .d _ _ (.lit _ rfl)
 · exact h
theorem zso {s:St} {β:Nm→Value} {own:Nat→Prop} {a:Act} {w:World} (hr:Rep s β own a w) {g:FuncId} {fo:Operand} {args:List Operand} {ps:List PV} {ats:Array TypeId} (hfo:s.ev fo=some (.d (fnD g))) (hev:s.evs args=some ps) (hp:Plain P g)
 {dst:Option Tmp}:∃ vals:List Value,(execOp a.eval ⟨dst,.call ⟨.value fo,args.toArray,ats⟩,ty,pos,aft,gd⟩).run P w=.ok (.enter g vals.toArray) w∧z7b β w own ps vals:=by
 obtain⟨fn,hfn,hname,hbody⟩:=hp
 have h:=hr.ev hfo
 have hv:a.eval fo=.func (.func g) #[] #[]:=h.lit
 refine⟨args.map a.eval,?_,hr.evs hev⟩
 exact zD37
theorem zmu {i:Nat} {s:St} {g:FuncId} {fo:Operand} {args:List Operand} {ps:List PV} {ats:Array TypeId} (ho:all[i]? =some ⟨some d,.call ⟨.value fo,args.toArray,ats⟩,ty,pos,aft,gd⟩)
 (hw:∀ β own a w,Rep s β own a w→Region.wanted ⟨some d,.call ⟨.value fo,args.toArray,ats⟩,ty,pos,aft,gd⟩ (yielded all a.tmps)=true)
 (hfo:s.ev fo=some (.d (fnD g))) (hev:s.evs args=some ps) (hsp:z0m P g ps p) (hd:d<s.n) :
 zlb P f R all k i s (s.app ⟨[],[],[],[(d,p)],[]⟩):=by
 intro is h β own a w hrep b hb hk hn cs
 have hsp:=hsp (push s.hp s.up)
 obtain⟨vals,hrun,hargs⟩:=zso hrep hfo hev hsp.plain (dst:=some d) (ats:=ats) (ty:=ty) (pos:=pos) (aft:=aft) (gd:=gd)
 obtain⟨e,w',fr,⟨v,r,H,own',rfl,⟨rfl,rfl⟩,hrv,hheap,hext⟩,hsteps,_,hleave⟩:=hsp.run β own w vals hrep.heap hargs (am b a (.inRegion all (i::is)::k)::cs)
 cases hrv with
 | v _ _ hpv =>
  have hr':Rep s β own' a w':=⟨hrep.size,hrep.defers,fun t q hq=>(hrep.tm t q hq).mono hext,hheap⟩
  have hr2:=hr'.put (dst:=some d) (p:=p) (v:=v) (by simp[St.fits,hd]) hpv
  exact((h β own' _ w' hr2 b hb hk hn cs).ext hext).of_steps (zew ho (hw β own a w hrep) hrun hsteps hleave)
theorem zgu {id:Nat} {ops:List Oper} {s0:St} {done:List Eff} {gr:List (Nat × PV)} {g:FuncId} {fo:Operand} {args:List Operand} {ps:List PV} {ats:Array TypeId} (hg:GOK ops.toArray gd gr ⟨n,tm,hp,up⟩)
 (hfo:St.ev ⟨n,tm,hp,up⟩ fo=some (.d (fnD g))) (hsp:z0m P g ps p) (hev:St.evs ⟨n,tm,hp,up⟩ args=some ps) (hd:d<n)
 (h:Tr P f R id ops k s0 (done++[⟨gr++rd ((fo,.d (fnD g))::args.zip ps),[],[],[(d,p)],[]⟩]) ⟨n,(d,p)::tm,hp,up⟩ l) :
 Tr P f R id ops k s0 done ⟨n,tm,hp,up⟩ (⟨some d,.call ⟨.value fo,args.toArray,ats⟩,ty,pos,aft,gd⟩::l):=by
 obtain⟨hz1,hz2⟩:=z6d hev
 have hz0:Evs ⟨n,tm,hp,up⟩ ((fo,.d (fnD g))::args.zip ps):=⟨hfo,hz1⟩
 refine zbq (e:=⟨gr++rd ((fo,.d (fnD g))::args.zip ps),[],[],[(d,p)],[]⟩) (fun i hi s1 hn hs1=>?_) ⟨fun q hq=>?_,by simp,by simp⟩ rfl h
 · have h1:Evs s1 ((fo,.d (fnD g))::args.zip ps):=z4p hz0 fun q hq=>hs1.ins q (by simp[hq])
   exact zmu hi (fun β own a w hr=>hg.wanted (fun q hq=>hs1.ins q (by simp[hq])) rfl hr) h1.1 (hz2 s1 h1.2) hsp (by rw[hn];exact hd)
 · exact zD69
theorem zmf {t e:TypeId} {ti te:TI} [ht:z15 P t ti] [he:z15 P e te] {len:Nat} {l:List (Nat × Operand)} {qs:List (Nat × List PV)} {cs:List PV} {ds:List D} {xs:List (List D)} (hq:St.parts ⟨n,tm,hp,up⟩ l=some qs) (hok:St.okParts ⟨n,tm,hp,up⟩ l=true)
 (hf:z5e (fun i=>some (i*te.size,te.size)) (z5i te.zero (len*te.size)) qs=some cs) (hm:z71 (cs.map asF)=some ds) (hxs:chunk te.size len ds=xs) (hk:ti.kind=.slice e)
 (hz:z8u te len=true) (hd:d<n) :
 z1x P ⟨some d,.buildSlice t len l.toArray,ty,pos,aft,gd⟩ ⟨n,tm,hp,up⟩ ⟨n,(d,.d (.slice xs))::tm,hp,up⟩ :=
 zba rfl hd fun β own a w hr=>by
  simp only[z8u,zA7,beq_iff_eq,bne_iff_ne,zA3] at hz
  obtain⟨⟨⟨z1,z2⟩,z3⟩,z4⟩:=hz
  obtain⟨h1,h2⟩:=hr.parts l qs hq hok
  have hl:(l.toArray.map fun x=>(x.1,a.eval x.2)).toList=l.map fun x=>(x.1,a.eval x.2):=by simp
  obtain⟨vs,hrun,hcr,hvl⟩:=z5w (P:=P) ht he hk z1 z2 z3 z4 (β:=β) (w:=w) (own:=own) (l.toArray.map fun x=>(x.1,a.eval x.2)) qs (by rw[hl];exact h1) (by rw[hl];exact h2) hf
  have hcr':CR β w own (cs.map asF) vs:=⟨by simpa using hcr.1,hcr.2.1,fun j x v hx hv=>by
   rw[zAd] at hx
   cases hc:cs[j]? with
   | none=>rw[hc] at hx;cases hx
   | some c=>rw[hc] at hx;simp at hx;subst hx;exact zss (hcr.2.2 j c v hc hv)⟩
  replace hcr:=z56 hcr' hm
  exact zD71
theorem zbu {t e:TypeId} {ti te:TI} {lp:List (Nat × Operand)} {ps:List PV} {qs:List (Nat × List PV)} {cs:List PV} {len:Nat} {ds:List D} {ys:List (List D)} [ht:z15 P t ti] [he:z15 P e te] (hk:ti.kind=.slice e) (hev:St.evs ⟨n,tm,hp,up⟩ (lp.map (·.2))=some ps) (hq:z2l lp ps=some qs) (hn:z4k ps=true) (hf:z5e (fun i=>some (i*te.size,te.size)) (z5i te.zero (len*te.size)) qs=some cs)
 (hm:z71 (cs.map asF)=some ds) (hxs:chunk te.size len ds=ys) (hz:z8u te len=true) (hd:d<n) (h:Ops P f R all l k ⟨n,(d,.d (.slice ys))::tm,hp,up⟩) :
 Op1 P f R all ⟨some d,.buildSlice t len lp.toArray,ty,pos,aft,gd⟩ l k ⟨n,tm,hp,up⟩ :=
 let ⟨h1,h2⟩:=z7u (evE (z4s hev)) hq hn
 z0b (zmf h1 h2 hf hm hxs hk hz hd) h
end Go.Ab
namespace Go.Ab
variable {P:Program} {f:FuncId} {R:z3x} {k:List Item} {all:Array Oper} {o:Oper} {l:List Oper}
variable {n:Nat} {tm:List (Nat × PV)} {hp:Hp} {up:Hf} {d:Nat} {ty:TypeId} {pos:String} {aft:Array Edge} {gd:Option (Nat × Bool)} {op:Op} {p:PV}
def PV.taker (m:Nm) (y:Nat):PV→PV
 | .ref q=>if q == m then .ref (0,y) else .ref q
 | p=>p
def zea (m:Nm) (y:Nat):List (Nat × PV)→List (Nat × PV)
 | []=>[]
 | (t,p)::r=>(t,p.taker m y)::zea m y r
theorem zau {m:Nm} {y:Nat}:∀ {tm:List (Nat × PV)} {t:Nat},look (zea m y tm) t=(look tm t).map (PV.taker m y)
 | [],t=>rfl
 | (k,p)::r,t=>by
  simp only[zea,look]
  split
  · rfl
  · exact zau
theorem z4c (y md ms:Nat) {raw:Blk} (hb:up md ms=some raw) (hl:raw.live=true) (hfr:(z1d y hp&&z1h y tm)=true)
 (h:Run P f R k ⟨n,(100000+y,.al (0,y) (md+1,ms))::zea (md+1,ms) y tm,(y,raw.lift (md+1))::hp,upd up (md,ms) .gone⟩):Run P f R k ⟨n,tm,hp,up⟩:=by
 refine Run.step (fun β own a w hr b cs=>⟨z5g β y (β (md+1,ms)),own,a,w,?_,Ext.refl _ _,z2w _ _ _,.refl _ _⟩) h
 have hne:((md+1,ms):Nm)≠(0,y):=by simp
 simp only[zA7] at hfr
 have hlook:z13 (push hp up) (md+1,ms)=some (raw.lift (md+1)):=by simp[z13,push,hb]
 have hl':(raw.lift (md+1)).live=true:=by rw[Blk.lift_live];exact hl
 have hr0:HR (push hp (upd up (md,ms) .gone)) β own w:=by rw[z5n];exact hr.heap.drop (md+1,ms)
 have key:∀ m c,z13 (push hp (upd up (md,ms) .gone)) m=some c→c.live=true→m≠(md+1,ms)∧z13 (push hp up) m=some c:=by
  exact zD54
 refine⟨hr.size,hr.defers,fun t p hp'=>?_,?_⟩
 · simp only[look] at hp'
   split at hp'
   · simp at hp';subst hp'
     exact .al _ _ (by rw[z1w,z2u _ _ _ _ hne]) _
   · rw[zau] at hp'
     cases hq:look tm t with
     | none=>rw[hq] at hp';cases hp'
     | some q =>
      rw[hq] at hp';simp at hp';subst hp'
      have h1:=hr.tm t q hq
      have h2:=h1.reβ (β':=z5g β y (β (md+1,ms))) (0,y) (z2u β y _) (z6n hfr.2 hq)
      generalize a.tmps.getD t undef=v at h1 h2
      cases q with
      | ref q =>
       simp only[PV.taker]
       split
       · rename_i e;simp at e;subst e
         cases h1 with|ref _=>have:=PR.ref (β:=z5g β y (β (md+1,ms))) (w:=w) (own:=own) (0,y);rw[z1w] at this;exact this
       · exact h2
      | _=>exact h2
 · exact zD25
theorem z0s {H:Hf} {m:Nm} {b c:Blk} {d s:Nat} (h:H d s=some c) (hne:¬ (d=m.1∧s=m.2)):upd H m b d s=some c:=by
 simp only[upd];rw[zAx hne];exact h
end Go.Ab
namespace Go.Ab
variable {P:Program} {ty tx ty':TypeId} {x y z:Operand} {k k2:IntKind} {a b:Int}
def zwt (k:IntKind) (a b:Int):Int:=k.wrap (a*2 ^ (min b.toNat k.bits))
def zuf (k:IntKind) (a b:Int):Int:=a.fdiv (2 ^ (min b.toNat k.bits))
def ztd (k:IntKind) (a b:Int):Int:=k.wrap ((BitVec.ofInt k.bits a &&& BitVec.ofInt k.bits b).toNat:Int)
def orV (k:IntKind) (a b:Int):Int:=k.wrap ((BitVec.ofInt k.bits a ||| BitVec.ofInt k.bits b).toNat:Int)
theorem zr8 (h0:0≤b):Val P (.binOp .shl tx x y ty') ty [(x,I k a),(y,I k2 b)] [] (I k (zwt k a b)):=fun d pos aft gd n tm hp up hd hx _ =>
 z5t hx.1 hx.2.1 hd rfl fun w=>by
  have h:¬ b<0:=by omega
  simp[eqGuard,binOp,Op.shift,h,zwt]
theorem zhj (h0:0≤b):Val P (.binOp .shr tx x y ty') ty [(x,I k a),(y,I k2 b)] [] (I k (zuf k a b)):=fun d pos aft gd n tm hp up hd hx _ =>
 z5t hx.1 hx.2.1 hd rfl fun w=>by
  have h:¬ b<0:=by omega
  simp[eqGuard,binOp,Op.shift,h,zuf]
theorem z9m:Val P (.binOp .and tx x y ty') ty [(x,I k a),(y,I k b)] [] (I k (ztd k a b)):=fun d pos aft gd n tm hp up hd hx _ =>
 z5t hx.1 hx.2.1 hd rfl fun w=>by simp[eqGuard,binOp,Op.intBits,ztd]
theorem zck:Val P (.binOp .or tx x y ty') ty [(x,I k a),(y,I k b)] [] (I k (orV k a b)):=fun d pos aft gd n tm hp up hd hx _ =>
 z5t hx.1 hx.2.1 hd rfl fun w=>by simp[eqGuard,binOp,Op.intBits,orV]
theorem ztk (h0:0≤a) (h1:b.toNat≤k.bits):zuf k a b=a / 2 ^ b.toNat:=by
 rw[zuf,Nat.min_eq_left h1,Int.fdiv_eq_ediv_of_nonneg _ (Int.pow_nonneg (by omega))]
theorem zxj {x:Int} (h1:0≤x) (h2:x<18446744073709551616):IntKind.u64.wrap x=x:=by
 simp only[IntKind.wrap,IntKind.bits,IntKind.signed]
 simp
 omega
end Go.Ab
namespace Go.Ab
variable {P:Program} {ty tx ty':TypeId} {x y z:Operand} {k k2:IntKind} {a b:Int}
theorem ztm {e:TypeId} {ti:TI} [ht:z15 P tx ti] {xs:List (List D)} (hk:ti.kind=.slice e) (hne:xs≠[]):Val P (.binOp .eql tx x y ty') ty [(x,.d (.slice xs)),(y,.d (.lit z1k))] [] (B false):=fun d pos aft gd n tm hp up hd hx _ =>
 z16 rfl hd fun β own ac w hrp=>by
  have h1:=hrp.ev hx.1
  have h2:=(hrp.ev hx.2.1).lit
  generalize hv:ac.eval x=v at h1
  cases h1 with
  | d _ _ h1 =>
   cases h1 with
   | nil a cap=>exact absurd rfl hne
   | slice _ g o cap k c =>
    refine⟨.bool false,?_,PR.B _⟩
    simp only[execOp,h2,hv]
    rw[Sem.run_bind]
    have:(eqGuard .eql tx x y (.slice (some ⟨g,o,none⟩) xs.length cap) z1k).run P w=.ok () w:=by simp[eqGuard,z1k]
    have key:(binOp .eql tx (.slice (some ⟨g,o,none⟩) xs.length cap) z1k).run P w=_:=Lib.run_eql_slice_nil w tx e (some ⟨g,o,none⟩) xs.length cap 0 0 (ht.slice hk)
    simp only[Sem.run_bind,this]
    show (Sem.run P (binOp .eql tx (.slice (some ⟨g,o,none⟩) xs.length cap) z1k) w).andThen _=_
    rw[key];rfl
end Go.Ab
namespace Go.Ab
section
variable {ops:List Oper} {es:List Eff} {s:St} {P:Program} {f:FuncId} {R:z3x} {k:List Item}
theorem zj3 {L:List Nat} {m:Nat} (h:Lin ops L) (hm:∀ i∈L,i<m):Lin (ops.take m) L:=by
 induction h with
 | nil=>exact .nil
 | snoc L i o h hn ho hr ih =>
  exact .snoc L i o (ih fun j hj=>hm j (by simp[hj])) hn (by rw[List.getElem?_take,zAy (hm i (by simp))];exact ho) hr
theorem zc0 {L:List Nat} (h:Lin ops L):L.Nodup:=by
 induction h with
 | nil=>simp
 | snoc L i o h hn ho hr ih=>rw[List.nodup_append];exact⟨ih,by simp,fun a ha b hb=>by simp at hb;subst hb;exact fun e=>hn (e▸ha)⟩
def zfd (ms:List Nat) (m n:Nat):Bool:=(List.range n).all fun j=>decide (j<m)||(List.range j).all fun i=>(ms.getD j 0).testBit i
theorem zby {ms:List Nat} {m n:Nat} (h:zfd ms m n=true) {j i:Nat} (hj:m≤j) (hn:j<n) (hi:i<j):(ms.getD j 0).testBit i=true:=by
 simp only[zfd,List.all_eq_true,List.mem_range,zAt,zA3] at h
 rcases h j hn with h|h
 · omega
 · exact h i hi
theorem zrr (hback:zaq ops 0=true) {m:Nat} (htail:zfd (zcp [] ops) m ops.length=true):∀ (fuel tt:Nat) (listed:Array Bool) (L:List Nat) (m':Nat),m≤m'→m'≤ops.length→(∀ i,listed.getD i false=true↔i∈L)→listed.size=ops.length→Lin ops L→(∀ i,i∈L↔i<m')→ops.length≤fuel+m' →
 (Region.linearise.go .any ops.toArray fuel tt listed []).map (fun i=>ops.toArray[i]?)=(ops.drop m').map some:=by
 intro fuel
 induction fuel with
 | zero =>
  intro tt listed L m' h1 h2 hlist hsz hL hm hle
  have:m'=ops.length:=by omega
  subst this
  simp[Region.linearise.go]
 | succ fuel ih =>
  intro tt listed L m' h1 h2 hlist hsz hL hm hle
  simp only[Region.linearise.go]
  change (match (Region.ready .any ops.toArray listed)[tt % (Region.ready .any ops.toArray listed).length]? with
   | some i=>Region.linearise.go .any ops.toArray fuel (tt / (Region.ready .any ops.toArray listed).length) (listed.setIfInBounds i true) [i]
   | none=>[].reverse).map (fun i=>ops.toArray[i]?)=_
  cases hi:(Region.ready .any ops.toArray listed)[tt % (Region.ready .any ops.toArray listed).length]? with
  | none =>
   have hnil:Region.ready .any ops.toArray listed=[]:=by
    exact zD18
   have hall:=z7r hback hlist hsz hnil
   have:m'=ops.length:=by
    apply Classical.byContradiction
    intro hne
    have:=(hm m').1 (hall m' (by omega))
    omega
   subst this
   simp
  | some i =>
   have hmem:i∈Region.ready .any ops.toArray listed:=zA2 hi
   obtain⟨hun,o,ho,hedges⟩:=mem_ready.1 hmem
   have ho':ops[i]? =some o:=by simpa using ho
   have hilt:i<ops.length:=(zA1.1 ho').1
   have hnL:i∉L:=fun hx=>by
    exact zD33
   have hL':Lin ops (L++[i]):=.snoc L i o hL hnL ho' fun e he hb=>(hlist _).1 (hedges e (by simpa using he) hb)
   have him:i=m':=by
    have h3:¬ i<m':=fun h=>hnL ((hm i).2 h)
    apply Classical.byContradiction
    intro hne
    have hbit:=zby htail (j:=i) (i:=m') (by omega) hilt (by omega)
    have:=z6s ops ops [] [] rfl rfl (by simp) i m' hbit L hL'
    have:=(hm m').1 this
    omega
   subst him
   simp only[]
   rw[linearise_go_acc,List.reverse_singleton,List.singleton_append,List.map_cons]
   have hd:ops.drop i=o::ops.drop (i+1):=by
    rw[zA1] at ho'
    rw[List.drop_eq_getElem_cons hilt,ho'.2]
   rw[hd,List.map_cons,ho]
   congr 1
   refine ih _ _ (L++[i]) (i+1) (by omega) (by omega) (fun j=>?_) (by simpa using hsz) hL' (fun j=>?_) (by omega)
   · exact zD41
   · rw[zAs,hm];simp;omega
theorem zpg {m:Nat} (hes:es.length=m) (hmo:m≤ops.length) (hchk:z5h (ops.take m) s es=true) (hback:zaq ops 0=true) (htail:zfd (zcp [] ops) m ops.length=true) {t:St} (htext:Text s es t)
 (hloc:∀ i e,es[i]? =some e→Loc P f R ops.toArray k s.n i e) (h:Ops P f R ops.toArray (ops.drop m) k t) :
 ∀ (fuel tt:Nat) (listed:Array Bool) (L:List Nat),(∀ i,listed.getD i false=true↔i∈L)→listed.size=ops.length→Lin ops L→(∀ i∈L,i<m)→ops.length≤fuel+L.length →
  Run P f R (.inRegion ops.toArray (Region.linearise.go .any ops.toArray fuel tt listed [])::k) (after es s L):=by
 -- all of the first part done
 have done:∀ (fuel tt:Nat) (listed:Array Bool) (L:List Nat),(∀ i,listed.getD i false=true↔i∈L)→listed.size=ops.length→Lin ops L→(∀ i,i∈L↔i<m)→ops.length≤fuel+m →
  Run P f R (.inRegion ops.toArray (Region.linearise.go .any ops.toArray fuel tt listed [])::k) (after es s L):=by
  intro fuel tt listed L hlist hsz hL hall hle
  have hg:=zrr hback htail fuel tt listed L m (zAj _) hmo hlist hsz hL hall hle
  have hr:=h _ hg
  obtain⟨h1,h2⟩:=ziq hchk (zj3 hL fun i hi=>(hall i).1 hi) (fun i hi=>(hall i).2 (by omega))
  rw[← htext.state.1] at h1 h2
  refine Run.same_view (s:=t) ?_ h1 h2 ?_ hr
  · rw[htext.state.1,zah,zah]
  · rw[zwx,zwx t];funext d x;exact h2 _
 intro fuel
 induction fuel with
 | zero =>
  intro tt listed L hlist hsz hL hlm hle
  have hlen:=nodup_lt_length m L (zc0 hL) hlm
  refine done 0 tt listed L hlist hsz hL (fun i=>⟨hlm i,fun hi=>?_⟩) (by omega)
  apply Classical.byContradiction
  intro hn
  have:=nodup_lt_length m (i::L) (List.nodup_cons.2 ⟨hn,zc0 hL⟩) (fun x hx=>by
   simp at hx
   rcases hx with rfl|hx
   · exact hi
   · exact hlm x hx)
  simp at this
  omega
 | succ fuel ih =>
  intro tt listed L hlist hsz hL hlm hle
  by_cases hfull:∀ i,i<m→i∈L
  · have hlen:m≤L.length:=by
     have:=nodup_lt_length m (List.range m) List.nodup_range (by simp)
     have h2:∀ (A B:List Nat),A.Nodup→(∀ x∈A,x∈B)→A.length≤B.length:=by
      intro A
      induction A with
      | nil=>intro B _ _;simp
      | cons a A ihA =>
       intro B hnd hsub
       obtain⟨ha,hnd'⟩:=List.nodup_cons.1 hnd
       have haB:=hsub a (by simp)
       have:=ihA (B.erase a) hnd' fun x hx=>by
        have:x≠a:=fun e=>ha (e▸hx)
        exact(List.mem_erase_of_ne this).2 (hsub x (by simp[hx]))
       rw[List.length_erase_of_mem haB] at this
       have hpos:0<B.length:=List.length_pos_of_mem haB
       simp;omega
     have:=h2 (List.range m) L List.nodup_range fun x hx=>hfull x (by simpa using hx)
     simpa using this
    have hlen2:=nodup_lt_length m L (zc0 hL) hlm
    exact done (fuel+1) tt listed L hlist hsz hL (fun i=>⟨hlm i,hfull i⟩) (by omega)
  · simp only[Region.linearise.go]
    change Run P f R (.inRegion ops.toArray (match (Region.ready .any ops.toArray listed)[tt % (Region.ready .any ops.toArray listed).length]? with
     | some i=>Region.linearise.go .any ops.toArray fuel (tt / (Region.ready .any ops.toArray listed).length) (listed.setIfInBounds i true) [i]
     | none=>[].reverse)::k) (after es s L)
    cases hi:(Region.ready .any ops.toArray listed)[tt % (Region.ready .any ops.toArray listed).length]? with
    | none =>
     exfalso
     have hnil:Region.ready .any ops.toArray listed=[]:=by
      exact zD18
     exact hfull fun i hi=>z7r hback hlist hsz hnil i (by omega)
    | some i =>
     have hmem:i∈Region.ready .any ops.toArray listed:=zA2 hi
     obtain⟨hun,o,ho,hedges⟩:=mem_ready.1 hmem
     have ho':ops[i]? =some o:=by simpa using ho
     have hilt:i<ops.length:=(zA1.1 ho').1
     have hnL:i∉L:=fun hx=>by
      exact zD33
     have hL':Lin ops (L++[i]):=.snoc L i o hL hnL ho' fun e he hb=>(hlist _).1 (hedges e (by simpa using he) hb)
     have him:i<m:=by
      apply Classical.byContradiction
      intro hge
      refine hfull fun j hj=>?_
      have hbit:=zby htail (j:=i) (i:=j) (by omega) hilt (by omega)
      exact z6s ops ops [] [] rfl rfl (by simp) i j hbit L hL'
     have hLm':∀ j∈L++[i],j<m:=fun j hj=>by
      simp at hj
      rcases hj with hj|rfl
      · exact hlm j hj
      · exact him
     simp only[]
     rw[linearise_go_acc,List.reverse_singleton,List.singleton_append]
     have hag:=zda hchk htext (zj3 hL' hLm')
     refine hloc i _ (getD_eq (by omega)) (after es s L) (zah es L s) hag _ ?_
     rw[← z3q]
     refine ih _ _ (L++[i]) (fun j=>?_) (by simpa using hsz) hL' hLm' (by simp;omega)
     exact zD41
def zm1 (ops:List Oper) (s:St) (es:List Eff):Bool:=decide (es.length≤ops.length)&&z5h (ops.take es.length) s es&&zaq ops 0&&zfd (zcp [] ops) es.length ops.length
theorem zs7 {id:Nat} (hmix:P.follows .mixedOrders=true) (hchk:zm1 ops s es=true) {t:St} (htext:Text s es t) (hloc:∀ i e,es[i]? =some e→Loc P f R ops.toArray k s.n i e) (h:Ops P f R ops.toArray (ops.drop es.length) k t) :
 Run P f R (.code (.region id ops.toArray true)::k) s:=by
 simp only[zm1,zA7,zA3] at hchk
 obtain⟨⟨⟨h1,h2⟩,h3⟩,h4⟩:=hchk
 intro β own a w hrep b hb hk hn cs
 have hlen:(Array.replicate ops.toArray.size false).size=ops.length:=by simp
 have key:=zpg rfl h1 h2 h3 h4 htext hloc h ops.toArray.size (w.tape w.drawn (.order b.fn id)) (Array.replicate ops.toArray.size false) [] (fun i=>by simp[Array.getElem?_replicate];split <;> simp) hlen .nil (by simp) (by simp)
 exact zD19
variable {id:Nat} {s0:St} {done:List Eff} {l:List Oper}
theorem zqx (hmix:P.follows .mixedOrders=true) (hchk:zm1 ops s0 done=true) (h:Ops P f R ops.toArray l k s):Tr P f R id ops k s0 done s l :=
 fun ⟨pre,hops,hlen⟩ hloc htext _=>zs7 hmix hchk htext hloc (by rw[hops,← hlen,List.drop_left,← hops];exact h)
end
end Go.Ab
namespace Go.Ab
variable {P:Program} {f:FuncId} {R:z3x} {k:List Item} {all:Array Oper} {o:Oper} {l:List Oper}
variable {n:Nat} {tm:List (Nat × PV)} {hp:Hp} {up:Hf} {d:Nat} {ty:TypeId} {pos:String} {aft:Array Edge} {gd:Option (Nat × Bool)} {op:Op} {p:PV}
variable {k':List Item} {s s':St}
theorem Run.stepV (h:∀ β own a w,Rep s β own a w→∀ (b:Frame) cs,∃ β' own' a' w',Rep s' β' own' a' w'∧Ext w own w' own'∧(∀ n,¬ R.vol n→z62 β' n=z62 β n) ∧
  Steps P (lone (am b a k) cs w) (lone (am b a' k') cs w')) (hr:Run P f R k' s'):Run P f R k s:=by
 intro β own a w hrep b hb hk hn cs
 obtain⟨β',own',a',w',hrep',hext,ho,hst⟩:=h β own a w hrep b cs
 refine(((hr β' own' a' w' hrep' b hb hk ?_ cs).same ho).ext hext).of_steps hst
 unfold z9u at hn ⊢
 cases hm:R.rnd with
 | none=>rw[hm] at hn;exact hn
 | some m =>
  rw[hm] at hn
  obtain⟨hv,L,h1,h2⟩:=hn
  exact⟨hv,L,h1,(ho m hv).trans h2⟩
def PV.alias (a b:Nm):PV→PV
 | .ref q=>if q == b then .ref a else .ref q
 | p=>p
def z99 (a b:Nm):List PV→List PV
 | []=>[]
 | p::r=>p.alias a b::z99 a b r
def Blk.alias (a b:Nm):Blk→Blk
 | .box cs=>.box (z99 a b cs)
 | .rowp e cs=>.rowp e (z99 a b cs)
 | q=>q
def z3l (a b:Nm):Hp→Hp
 | []=>[]
 | (t,q)::r=>(t,q.alias a b)::z3l a b r
theorem zam (a b:Nm):∀ (cs:List PV) (j:Nat),(z99 a b cs)[j]? =(cs[j]?).map (PV.alias a b)
 | [],j=>by simp[z99]
 | p::r,0=>by simp[z99]
 | p::r,j+1=>by simp[z99,zam a b r j]
theorem za6 (a b:Nm):∀ cs:List PV,(z99 a b cs).length=cs.length
 | []=>rfl
 | p::r=>by simp[z99,za6 a b r]
theorem z6a {a b:Nm}:∀ {hp:Hp} {t:Nat},look (z3l a b hp) t=(look hp t).map (Blk.alias a b)
 | [],t=>rfl
 | (k,p)::r,t=>by
  simp only[z3l,look]
  split
  · rfl
  · exact z6a
theorem PR.alias {β:Nm→Value} {w:World} {own:Nat→Prop} {a b:Nm} (hab:β a=β b) {p:PV} {v:Value} (h:PR β w own p v):PR β w own (p.alias a b) v:=by
 cases h with
 | ref q =>
  simp only[PV.alias]
  split
  · rename_i e;simp at e;subst e;rw[← hab];exact .ref _
  · exact .ref _
 | any=>exact .any _
 | d _ _ h=>exact .d _ _ h
 | ptr m off g h=>exact .ptr m off g h
 | eptr cs g o c h1 h2 h3 h4=>exact .eptr cs g o c h1 h2 h3 h4
 | rptr m k i off g len cap h=>exact .rptr m k i off g len cap h
 | rsub m k lo len L cap a h h1 h2=>exact .rsub m k lo len L cap a h h1 h2
 | al m m' h v=>exact .al m m' h v
 | agg cs vs h1 h2 h3=>exact .agg cs vs h1 h2 h3
 | tup cs vs h1 h2=>exact .tup cs vs h1 h2
 | fn f a b c d e g h i=>exact .fn f a b c d e g h i
 | yl m L h=>exact .yl m L h
 | full xs a h=>exact .full xs a h
theorem BR.alias {β:Nm→Value} {w:World} {own:Nat→Prop} {a b:Nm} (hab:β a=β b) {v:Value} {q:Blk} (h:BR β w own v q):BR β w own v (q.alias a b):=by
 cases h with
 | box g t cs cur ho hg hl h1 hd =>
  refine .box g t _ cur ho hg (by rw[za6];exact hl) h1 fun j x u hx hu=>?_
  exact zD59
 | row v e k xs vs ho hk hr hd=>exact .row v e k xs vs ho hk hr hd
 | rowp v e cs vs ho hr h1 hd =>
  refine .rowp v e _ vs ho (by rw[za6];exact hr) h1 fun j x u hx hu=>?_
  exact zD59
 | siter g s pos ho hg=>exact .siter g s pos ho hg
 | gmap g cur clock ho hg=>exact .gmap g cur clock ho hg
 | mit h g since seen last ho hg=>exact .mit h g since seen last ho hg
 | glob g o ho hg hd=>exact .glob g o ho hg hd
 | mp g clock es cur ho hg hl hd hb hc=>exact .mp g clock es cur ho hg hl hd hb hc
 | lp g n' f ps asg body st state pending tmps df ho hg hl hd=>exact .lp g n' f ps asg body st state pending tmps df ho hg hl hd
 | gone v=>exact .gone v
theorem Blk.alias_live (a b:Nm) (q:Blk):(q.alias a b).live=q.live:=by cases q <;> rfl
theorem HR.alias {β:Nm→Value} {own:Nat→Prop} {w:World} {a b:Nm} (hab:β a=β b) (h:HR (push hp up) β own w):HR (push (z3l a b hp) up) β own w:=by
 have key:∀ m c,z13 (push (z3l a b hp) up) m=some c→(m.1=0∧∃ q,z13 (push hp up) m=some q∧c=q.alias a b)∨z13 (push hp up) m=some c:=by
  rintro⟨e,t⟩ c hc
  cases e with
  | zero =>
   left
   have hc':look (z3l a b hp) t=some c:=hc
   rw[z6a] at hc'
   cases hq:look hp t with
   | none=>rw[hq] at hc';cases hc'
   | some q=>rw[hq] at hc';simp at hc';exact⟨rfl,q,hq,hc'.symm⟩
  | succ e=>right;exact hc
 refine⟨fun m c hc=>?_,fun m1 m2 c1 c2 h1 h2 l1 l2 hne=>?_,h.lt⟩
 · rcases key m c hc with ⟨_,q,hq,rfl⟩|hq
   · exact(h.blk m q hq).alias hab
   · exact h.blk m c hq
 · have g:∀ m c,z13 (push (z3l a b hp) up) m=some c→c.live=true→∃ q,z13 (push hp up) m=some q∧q.live=true:=by
    intro m c hc hl
    rcases key m c hc with ⟨_,q,hq,rfl⟩|hq
    · exact⟨q,hq,by rwa [Blk.alias_live] at hl⟩
    · exact⟨c,hq,hl⟩
   obtain⟨q1,e1,f1⟩:=g m1 c1 h1 l1
   obtain⟨q2,e2,f2⟩:=g m2 c2 h2 l2
   exact h.inj m1 m2 q1 q2 e1 e2 f1 f2 hne
theorem z4e (t:Nat) {a b:Nm} (hal:look tm t=some (.al a b)) (h:Run P f R k ⟨n,tm,z3l a b hp,up⟩):Run P f R k ⟨n,tm,hp,up⟩:=by
 refine Run.le (s:=⟨n,tm,z3l a b hp,up⟩) (fun β own ac w hr=>⟨β,rfl,hr.size,hr.defers,hr.tm,?_⟩) h
 have hab:β a=β b:=by
  have:=hr.tm _ _ hal
  generalize ac.tmps.getD t undef=v at this
  cases this with|al _ _ h _=>exact h
 exact hr.heap.alias hab
def z6p (m:Nm):List (Nat × PV)→List (Nat × PV)
 | []=>[]
 | (t,p)::r=>(t,if p.says m then .any else p)::z6p m r
theorem z5r {m:Nm}:∀ {tm:List (Nat × PV)} {t:Nat},look (z6p m tm) t=(look tm t).map fun p=>if p.says m then .any else p
 | [],t=>rfl
 | (k,p)::r,t=>by
  simp only[z6p,look]
  split
  · rfl
  · exact z5r
theorem PR.drop {β β':Nm→Value} {w:World} {own:Nat→Prop} {m:Nm} (hb:∀ q,q≠m→β' q=β q) {p:PV} {v:Value} (h:PR β w own p v):PR β' w own (if p.says m then .any else p) v:=by
 split
 · exact .any _
 · rename_i hs
   exact h.reβ m hb (by simpa using hs)
def z3r (m:Nm):Hp→Bool
 | []=>true
 | (_,b)::r=>!b.says m&&z3r m r
theorem z4d {m:Nm}:∀ {hp:Hp} {t:Nat} {b:Blk},z3r m hp=true→look hp t=some b→b.says m=false
 | [],t,b,_,h=>by simp[look] at h
 | (k,c)::r,t,b,hf,h=>by
  simp only[z3r,zA7,zA6] at hf
  simp only[look] at h
  split at h
  · simp at h;subst h;exact hf.1
  · exact z4d hf.2 h
def Quiet (H:Hf) (ms:Nat):Prop:=∀ s b,H 0 s=some b→b.says (0,ms)=false
theorem zaa (m:Nm) (d s:Nat):((m.1+1,m.2) == ((d+1,s):Nm))=(m == (d,s)):=by
 obtain⟨a,b⟩:=m
 rw[Bool.eq_iff_iff]
 simp
mutual
theorem PV.lift_says1 (d s:Nat):∀ p:PV,(p.lift 1).says (d+1,s)=p.says (d,s)
 | .ptr m off=>by simp only[PV.lift,PV.says,zaa]
 | .ref m=>by simp only[PV.lift,PV.says,zaa]
 | .rptr m _ _ _=>by simp only[PV.lift,PV.says,zaa]
 | .rsub m _ _ _=>by simp only[PV.lift,PV.says,zaa]
 | .al a b=>by simp only[PV.lift,PV.says,zaa]
 | .agg cs=>by simp only[PV.lift,PV.says];exact PV.liftL_says1 d s cs
 | .tup vs=>by simp only[PV.lift,PV.says];exact PV.liftL_says1 d s vs
 | .fn f a b=>by simp only[PV.lift,PV.says];rw[PV.liftL_says1 d s a,PV.liftL_says1 d s b]
 | .yl m=>by simp only[PV.lift,PV.says,zaa]
 | .full _=>rfl
 | .any=>rfl
 | .d _=>rfl
 | .eptr _=>rfl
theorem PV.liftL_says1 (d s:Nat):∀ ps:List PV,PV.saysL (d+1,s) (PV.liftL 1 ps)=PV.saysL (d,s) ps
 | []=>rfl
 | p::ps=>by simp only[PV.liftL,PV.saysL];rw[PV.lift_says1 d s p,PV.liftL_says1 d s ps]
end
theorem zap (d s:Nat):∀ st:List (Nat × PV),z4q (d+1,s) (z2y 1 st)=z4q (d,s) st
 | []=>rfl
 | (t,p)::r=>by simp only[z2y,z4q];rw[PV.lift_says1 d s p,zap d s r]
theorem Blk.lift_says1 (d s:Nat) (b:Blk):(b.lift 1).says (d+1,s)=b.says (d,s):=by
 cases b with
 | box cs=>exact PV.liftL_says1 d s cs
 | rowp _ cs=>exact PV.liftL_says1 d s cs
 | lp _ _ _ _ _ st _ _=>exact zap d s st
 | _=>rfl
theorem Blk.lift_comp (d:Nat) (b:Blk):b.lift (d+1)=(b.lift d).lift 1:=(Blk.lift_lift d b).symm
theorem Blk.lift_says0 (d t s:Nat) (b:Blk):(b.lift (d+t+1)).says (t,s)=false:=by
 induction t generalizing d with
 | zero=>exact Blk.lift_says s d b
 | succ t ih=>rw[show d+(t+1)+1=(d+t+1)+1 by omega,Blk.lift_comp,Blk.lift_says1];exact ih d
theorem z3e (y ms:Nat) {e kk:Nat} {xs:List (List D)} (hb:look hp y=some (.row e kk xs)) (hg:up 0 ms=some .gone) (hvol:R.vol (0,ms)) (hq:z3r (1,ms) hp=true) (hup:Quiet up ms)
 (h:Run P f R k ⟨n,z6p (1,ms) tm,(y,.gone)::z3l (1,ms) (0,y) hp,upd up (0,ms) (.row e kk xs)⟩):Run P f R k ⟨n,tm,hp,up⟩:=by
 refine Run.stepV (s:=⟨n,tm,hp,up⟩) (s':=⟨n,z6p (1,ms) tm,(y,.gone)::z3l (1,ms) (0,y) hp,upd up (0,ms) (.row e kk xs)⟩) (fun β own a w hr b' fs=>?_) h
 let β':Nm→Value:=fun m=>if m=(1,ms) then β (0,y) else β m
 have hne:∀ m,m≠(1,ms)→β' m=β m:=fun m hm=>by simp[β',hm]
 have hsame:β' (1,ms)=β' (0,y):=by simp[β']
 have hy:β' (0,y)=β (0,y):=hne _ (by simp)
 -- the blocks as before, said by β'
 have hold:∀ m c,z13 (push hp up) m=some c→c.says (1,ms)=false:=by
  rintro⟨dd,t⟩ c hc
  match dd,hc with
  | 0,hc=>exact z4d hq hc
  | 1,hc =>
   simp only[z13,push] at hc
   cases hu:up 0 t with
   | none=>rw[hu] at hc;cases hc
   | some q=>rw[hu] at hc;simp at hc;subst hc;rw[Blk.lift_says1];exact hup t q hu
  | dd+2,hc =>
   simp only[z13,push] at hc
   cases hu:up (dd+1) t with
   | none=>rw[hu] at hc;cases hc
   | some q=>rw[hu] at hc;simp at hc;subst hc;exact Blk.lift_says0 dd 1 ms q
 have h1:HR (push hp up) β' own w:=by
  refine⟨fun m c hc=>?_,fun m1 m2 c1 c2 e1 e2 l1 l2 hn=>?_,hr.heap.lt⟩
  · by_cases hm:m=(1,ms)
    · subst hm
      have hc2:z13 (push hp up) (1,ms)=some .gone:=by simp[z13,push,hg,Blk.lift]
      rw[hc2] at hc;simp at hc;subst hc;exact .gone _
    · rw[hne m hm];exact(hr.heap.blk m c hc).reβ (1,ms) hne (hold m c hc)
  · have hg1:∀ m c,z13 (push hp up) m=some c→c.live=true→m≠(1,ms):=by
     rintro m c hc hl rfl
     have hc2:z13 (push hp up) (1,ms)=some .gone:=by simp[z13,push,hg,Blk.lift]
     rw[hc2] at hc;simp at hc;subst hc;cases hl
    rw[hne m1 (hg1 m1 c1 e1 l1),hne m2 (hg1 m2 c2 e2 l2)]
    exact hr.heap.inj m1 m2 c1 c2 e1 e2 l1 l2 hn
 have h2:=h1.alias (hp:=hp) hsame
 refine⟨β',own,a,w,⟨hr.size,hr.defers,fun t p hp'=>?_,?_⟩,Ext.refl _ _,fun m hm=>?_,.refl _ _⟩
 · exact zD52
 · -- the row moves from the own name to the caller's
   have hrow:z13 (push (z3l (1,ms) (0,y) hp) up) (0,y)=some (.row e kk xs):=by
    show look (z3l (1,ms) (0,y) hp) y=_
    rw[z6a,hb];rfl
   have key:∀ m c,z13 (push ((y,.gone)::z3l (1,ms) (0,y) hp) (upd up (0,ms) (.row e kk xs))) m=some c→c.live=true→(m=(1,ms)∧c=.row e kk xs)∨(m≠(1,ms)∧m≠(0,y)∧z13 (push (z3l (1,ms) (0,y) hp) up) m=some c):=by
    intro m c hm hc
    rw[z2f] at hm
    by_cases e1:m=(0,y)
    · rw[zAy e1] at hm;simp at hm;subst hm;cases hc
    · rw[zAx e1,z5n,z3a] at hm
      by_cases e2:m=(1,ms)
      · rw[zAy e2] at hm;simp[atF,Blk.lift] at hm;exact .inl ⟨e2,hm.symm⟩
      · rw[zAx e2] at hm;exact .inr ⟨e2,e1,hm⟩
   exact zD7
 · refine hne _ fun e=>hm ?_
   simp only[Prod.mk.injEq] at e
   have:m=(0,ms):=Prod.ext (by omega) e.2
   subst this
   exact hvol
def zpw (H:Hf) (bs:List (Nm × Blk)) (ms:Nat):Prop:=∀ s b,(∀ q∈bs,q.1≠(0,s))→H 0 s=some b→b.says (0,ms)=false
def z83 (P:Program) (g:FuncId) (args:List PV) (bs hs:List (Nm × Blk)) (p:PV) (ms:Nat):Prop :=
 ∀ H:Hf,(∀ q∈bs,H q.1.1 q.1.2=some q.2)→zpw H bs ms→z9t P g args H ⟨fun r H'=>r=.v p∧H'=zd1 H hs,fun n=>n=(0,ms),none⟩
end Go.Ab
namespace Go.Ab
end Go.Ab
namespace Go.Ab
variable {P:Program} {f:FuncId} {R:z3x} {k:List Item} {all:Array Oper} {l:List Oper}
variable {n:Nat} {tm:List (Nat × PV)} {hp:Hp} {up:Hf} {d:Nat} {ty:TypeId} {pos:String} {aft:Array Edge} {gd:Option (Nat × Bool)} {p:PV}
end Go.Ab
namespace Go.Ab
variable {P:Program} {f:FuncId} {R:z3x} {k:List Item} {all:Array Oper} {l:List Oper}
variable {n:Nat} {tm:List (Nat × PV)} {hp:Hp} {up:Hf}
theorem zfa (a b:Nat) {q:Blk} (hb:look hp a=some q) (hab:(!(a == b)&&!q.says (0,b))=true) (h:Ops P f R all l k ⟨n,za3 a b tm,(b,q)::(a,.gone)::zcc a b hp,up⟩):Ops P f R all l k ⟨n,tm,hp,up⟩ :=
 fun is his=>z4x a b hb hab (h is his)
theorem zdq (ms j x e kk:Nat) {cs:List PV} (hb:look hp ms=some (.box cs)) (hj:cs[j]? =some (.d (.lit z1k))) (hk:(decide (0<kk)&&!(ms == x))=true) (hfr:(z1d x hp&&z1h x tm)=true)
 (h:Ops P f R all l k ⟨n,tm,(ms,.box (cs.set j (.ref (0,x))))::(x,.row e kk [])::hp,up⟩):Ops P f R all l k ⟨n,tm,hp,up⟩ :=
 fun is his=>z4i ms j x e kk hb hj hk hfr (h is his)
end Go.Ab
namespace Go.Ab
variable {P:Program} {ty:TypeId} {x:Operand}
theorem zr9 {src dst e:TypeId} {ts td te:TI} {l:List Int} [hs:z15 P src ts] [hd':z15 P dst td] [he:z15 P e te] (hks:ts.kind=.slice e) (hkd:td.kind=.str) (hke:te.kind=.int .u8) :
 Val P (.convert src dst x) ty [(x,.d (.slice (l.map fun n=>[.lit (.int .u8 n)])))] [] (S (strOfNums l)):=fun d pos aft gd n tm hp up hd hx _ =>
 z16 rfl hd fun β own ac w hrp=>by
  have h1:=hrp.ev hx.1
  generalize hv:ac.eval x=v at h1
  refine⟨.string (strOfNums l),?_,PR.S _⟩
  cases h1 with
  | d _ _ h1 =>
   have key:(convert src dst v).run P w=.ok (.string (strOfNums l)) w:=by
    generalize hxs:(l.map fun n=>[D.lit (Value.int .u8 n)])=xs at h1
    cases h1 with
    | nil a cap =>
     have:l=[]:=List.map_eq_nil_iff.1 hxs
     subst this
     cases a with
     | none=>exact run_convert_bytes_nil w src e (hs.slice hks) (he.int hke) 0 cap dst (hd'.str hkd)
     | some a =>
      rw[run_convert_bytes_string w src dst e _ 0 cap (hs.slice hks) (he.int hke) (hd'.str hkd),run_bytesToString w a 0 cap [] (by
       have:=run_loadCells_list (P:=P) w a [] (fun j v hj=>by simp at hj)
       simpa using this)]
      rfl
    | slice _ g o cap k c hc hown hlt hk hcell hdd =>
     subst hxs
     rw[zA4]
     refine run_convert_bytes_arg w src e (hs.slice hks) (he.int hke) g o l.length cap l rfl (fun i hi=>?_) dst (hd'.str hkd)
     have hl1:(l.map fun n=>[D.lit (Value.int .u8 n)])[i]? =some [D.lit (.int .u8 (l.getD i 0))]:=by
      rw[zAd,zA0 hi,List.getD,zA0 hi];rfl
     have hk1:k=1:=by
      have:=hk _ (zA2 hl1);simpa using this.symm
     subst hk1
     have h2:=hcell i (by simpa using hi) 0 (by omega)
     have h3:=hdd i _ hl1 0 _ (by simp;rfl)
     have h4:c i 0=.int .u8 (l.getD i 0):=by
      generalize c i 0=u at h3
      cases h3 with
      | lit _ h=>rfl
     rw[← h4];simpa using h2.1
   simp only[execOp,hv]
   rw[Sem.run_bind,key];rfl
end Go.Ab
namespace Go.Ab
open Go.ChangeShapes Go.WideShapes Go.ChangeAt Go.RowKit
theorem Ext.toBelow {w w':World} {own':Nat→Prop} (h:Ext w (fun _=>False) w' own'):Below w.heap.size w w' :=
 ⟨h.os,h.tape,h.output,h.size,fun k hk=>h.block k hk (fun f=>f)⟩
theorem Below.kept {w w':World} (h:Below w.heap.size w w') (may:MemPlace→Prop):w.keptBut w' may:=by
 refine⟨h.os,h.output,fun i hi=>?_⟩
 rw[h.block i hi]
 cases hb:w.heap[i]? with
 | none=>rfl
 | some o=>cases o <;> simp
section
variable {H:Type} {enc:TypeId × Value→H} {P:Program}
theorem z9i (hl:laidOutB P=true) {W W':World} (hb:Below W.heap.size W W'):∀ {ts:List TypeId} {vs:List Value} {ds:List (DataW H)} {ps:List MemPlace},
 ts.all (fun t=>P.readableRec t&&decide (t<P.types.size))=true→(∀ x∈ps,x.block<W.heap.size)→DataW.TrodAll enc P W 0 (fun _=>true) true ts vs ds ps →
 DataW.TrodAll enc P W' 0 (fun b=>decide (b<W.heap.size)) true ts vs ds ps
 | [],vs,ds,ps,_,_,h=>by
  obtain⟨rfl,rfl,rfl⟩:=trodAll_nil h
  exact trodAll_mk0
 | t::ts,vs,ds,ps,hp,hlt,h=>by
  obtain⟨v,vs',d,ds',p,q,rfl,rfl,rfl,h1,h2⟩:=trodAll_cons h
  simp only[List.all_cons,zA7,zA3] at hp
  exact⟨p,q,Below.trod hl hp.1.1 hp.1.2 h1 hb (fun x hx=>hlt x (by simp[hx])),z9i hl hb hp.2 (fun x hx=>hlt x (by simp[hx])) h2,rfl⟩
theorem zit {fn:Func} {s:ChangeSpec} {W W':World} {own':Nat→Prop} {args:Array Value} {ds gs:List (DataW H)} {before:List MemPlace} {tb:TypeId} (hl:laidOutB P=true)
 (hp:fn.params.toList.all (fun t=>P.readableRec t&&decide (t<P.types.size))=true) (hW:DataW.Whole enc P fn.params.toList s.vars false W args.toList ds gs before) (hE:Ext W (fun _=>False) W' own')
 (hv:s.vars=[]) (hs:s.fn H ds={ results:=[.lit (.bool true)],args:=ds }) (hr:fn.resultTypes=#[tb]) (hb:P.underlying tb=some .bool) :
 s.post enc P fn false true false false W args (.bool true) W':=by
 have hlt:=hW.lt
 have hW':=hW
 obtain⟨p,q,hA,hV,rfl,hfz,hnd⟩:=hW
 rw[hv] at hV
 obtain⟨rfl,rfl⟩:=trodVars_none hV
 simp only[List.append_nil] at hlt hfz hnd hW'
 refine⟨ds,[],p,[],p,[],hW',?_,?_,?_,Below.kept hE.toBelow _,fun h=>by cases h⟩
 · rw[List.append_nil,hs,hr]
   exact trodAll_mk1 (shut_bool hb _)
 · rw[List.append_nil,hs]
   exact z9i hl hE.toBelow hp hlt hA
 · rw[List.append_nil,hs,hv]
   rfl
end
end Go.Ab
namespace Go.Ab
open Go.ChangeShapes Go.WideShapes Go.ChangeAt Go.RowKit
inductive Sh (P:Program):TypeId→List D→Prop where
 | int (t:TypeId) (k:IntKind) (z:Int) (ht:P.underlying t=some (.int k)) (h1:k.min≤z) (h2:z≤k.max):Sh P t [.lit (.int k z)]
 | bool (t:TypeId) (b:Bool) (ht:P.underlying t=some .bool):Sh P t [.lit (.bool b)]
 | str (t:TypeId) (s:ByteArray) (ht:P.underlying t=some .string) (hs:s.size≤maxLen):Sh P t [.lit (.string s)]
 | slice (t e:TypeId) (xs:List (List D)) (ht:P.underlying t=some (.slice e)) (hl:xs.length≤maxLen) (hx:∀ x∈xs,Sh P e x):Sh P t [.slice xs]
 | struct (t:TypeId) (fs:List Field) (parts:List (List D)) (ht:P.underlying t=some (.struct fs.toArray)) (hl:parts.length=fs.length) (hp:∀ (i:Nat) (f:Field) (x:List D),fs[i]? =some f→parts[i]? =some x→Sh P f.type x):Sh P t parts.flatten
def zuz (P:Program):Nat→List Field→Option Nat
 | o,[]=>some o
 | o,f::r=>if f.offset=o then zuz P (o+P.cellsOf f.type) r else none
def zhq (P:Program) (G:List TypeId):Bool:=G.all fun t=>match P.underlying t with
 | some .bool=>true
 | some (.int _)=>true
 | some .string=>true
 | some (.slice e)=>G.contains e&&decide (0<P.cellsOf e)
 | some (.struct fs)=>fs.toList.all (fun f=>G.contains f.type)&&zuz P 0 fs.toList == some (P.cellsOf t)
 | _=>false
def CD (w:World) (own:Nat→Prop) (ds:List D) (cs:List Value):Prop :=
 ds.length=cs.length∧(∀ v∈cs,v.oneCell'=true)∧∀ (j:Nat) (x:D) (v:Value),ds[j]? =some x→cs[j]? =some v→DR w own x v
theorem CD.one {w:World} {own:Nat→Prop} {x:D} {v:Value} (h:DR w own x v) (h1:v.oneCell'=true):CD w own [x] [v] :=
 ⟨rfl,by simpa using h1,fun j y u hy hu=>by
   cases j with
   | zero=>simp at hy hu;subst hy;subst hu;exact h
   | succ j=>simp at hy⟩
theorem CD.nil {w:World} {own:Nat→Prop}:CD w own [] []:=⟨rfl,by simp,by simp⟩
theorem CD.append {w:World} {own:Nat→Prop} {a b:List D} {u v:List Value} (h:CD w own a u) (h':CD w own b v):CD w own (a++b) (u++v):=by
 refine⟨by simp[h.1,h'.1],fun x hx=>?_,fun j x y hx hy=>?_⟩
 · rw[zAs] at hx
   exact hx.elim (h.2.1 x) (h'.2.1 x)
 · by_cases hj:j<a.length
   · rw[zAb hj] at hx
     rw[zAb (by rw[← h.1];exact hj)] at hy
     exact h.2.2 j x y hx hy
   · rw[zAg (by omega)] at hx
     rw[zAg (by rw[← h.1];omega)] at hy
     rw[← h.1] at hy
     exact h'.2.2 _ x y hx hy
theorem zld {P:Program} (cs:List Value):∀ (fs:List Field) (o e:Nat),zuz P o fs=some e→e≤cs.length→(fs.map fun f=>(cs.drop f.offset).take (P.cellsOf f.type)).flatten=(cs.drop o).take (e-o)∧o≤e
 | [],o,e,h,he=>by simp[zuz] at h;subst h;simp
 | f::r,o,e,h,he=>by
  rw[zuz] at h
  split at h
  · rename_i ho
    obtain⟨h1,h2⟩:=zld cs r _ e h he
    refine⟨?_,by omega⟩
    rw[List.map_cons,List.flatten_cons,h1,ho,show e-o=P.cellsOf f.type+(e-(o+P.cellsOf f.type)) by omega,List.take_add,List.drop_drop]
  · cases h
variable {H:Type} {enc:TypeId × Value→H} {P:Program}
theorem zkq {w:World} {own:Nat→Prop}:∀ (parts:List (List D)) (vs:List (List Value)),parts.length=vs.length→(∀ (i:Nat) (a:List D) (b:List Value),parts[i]? =some a→vs[i]? =some b→CD w own a b)→CD w own parts.flatten vs.flatten
 | [],[],_,_=>CD.nil
 | a::p,b::v,hl,h=>by
  rw[List.flatten_cons,List.flatten_cons]
  exact(h 0 a b rfl rfl).append (zkq p v (by simpa using hl) fun i x y hx hy=>h (i+1) x y (by simpa using hx) (by simpa using hy))
 | [],_::_,h,_=>by simp at h
 | _::_,[],h,_=>by simp at h
theorem z90 {α β:Type} {p:Nat→α→β→Prop}:∀ (l:List α) (o:Nat),(∀ (i:Nat) (a:α),l[i]? =some a→∃ b,p (o+i) a b)→∃ r:List β,r.length=l.length∧∀ (i:Nat) (a:α) (b:β),l[i]? =some a→r[i]? =some b→p (o+i) a b
 | [],o,h=>⟨[],rfl,by simp⟩
 | x::l,o,h=>by
  obtain⟨b,hb⟩:=h 0 x rfl
  obtain⟨r,h1,h2⟩:=z90 l (o+1) fun i a ha=>by
   obtain⟨c,hc⟩:=h (i+1) a (by simpa using ha)
   exact⟨c,by rw[show o+1+i=o+(i+1) by omega];exact hc⟩
  refine⟨b::r,by simp[h1],fun i a c ha hc=>?_⟩
  cases i with
  | zero=>simp at ha hc;subst ha;subst hc;exact hb
  | succ i =>
   have:=h2 i a c (by simpa using ha) (by simpa using hc)
   rw[show o+(i+1)=o+1+i by omega];exact this
theorem Sh.inv_int {t:TypeId} {ds:List D} {k:IntKind} (h:Sh P t ds) (ht:P.underlying t=some (.int k)):∃ z:Int,ds=[.lit (.int k z)]∧k.min≤z∧z≤k.max:=by
 cases h with
 | int _ k' z h1 h2 h3=>rw[ht] at h1;simp at h1;subst h1;exact⟨z,rfl,h2,h3⟩
 | bool _ b h1=>rw[ht] at h1;simp at h1
 | str _ s h1=>rw[ht] at h1;simp at h1
 | slice _ e xs h1=>rw[ht] at h1;simp at h1
 | struct _ fs p h1=>rw[ht] at h1;simp at h1
theorem Sh.inv_slice {t e:TypeId} {ds:List D} (h:Sh P t ds) (ht:P.underlying t=some (.slice e)):∃ xs:List (List D),ds=[.slice xs]∧xs.length≤maxLen∧∀ x∈xs,Sh P e x:=by
 cases h with
 | int _ k' z h1 h2 h3=>rw[ht] at h1;simp at h1
 | bool _ b h1=>rw[ht] at h1;simp at h1
 | str _ s h1 hs=>rw[ht] at h1;simp at h1
 | slice _ e' xs h1 h2 h3=>rw[ht] at h1;simp at h1;subst h1;exact⟨xs,rfl,h2,h3⟩
 | struct _ fs p h1=>rw[ht] at h1;simp at h1
theorem Sh.inv_list {t e:TypeId} {ds:List D} {α:Type} (f:α→List D) (Q:α→Prop) (h:Sh P t ds) (ht:P.underlying t=some (.slice e)) (he:∀ x,Sh P e x→∃ a,x=f a∧Q a):∃ l:List α,ds=[.slice (l.map f)]∧l.length≤9223372036854775807∧∀ a∈l,Q a:=by
 obtain⟨xs,rfl,h1,h2⟩:=h.inv_slice ht
 have:∀ xs:List (List D),(∀ x∈xs,Sh P e x)→∃ l:List α,xs=l.map f∧∀ a∈l,Q a:=by
  intro xs
  induction xs with
  | nil=>exact fun _=>⟨[],rfl,by simp⟩
  | cons x xs ih =>
   intro h
   obtain⟨a,ha,hq⟩:=he x (h x (by simp))
   obtain⟨l,hl,hq'⟩:=ih fun y hy=>h y (by simp[hy])
   exact⟨a::l,by rw[ha,hl];rfl,by simpa using ⟨hq,hq'⟩⟩
 obtain⟨l,hl,hq⟩:=this xs h2
 refine⟨l,by rw[hl],?_,hq⟩
 have:=congrArg List.length hl
 simp[maxLen] at this h1 ⊢
 omega
end Go.Ab
namespace Go.Ab
open Go.RowKit Go.Sort
theorem zkd {P:Program} {g:FuncId} {ps:List PV} {bs hs:List (Nm × Blk)} {p:PV} (hp:Plain P g)
 (h:∀ (H:Hf),(∀ q∈bs,H q.1.1 q.1.2=some q.2)→∀ β own w vals,HR H β own w→z7b β w own ps vals→Calls P g vals.toArray w (zyb (fun r H'=>r=.v p∧H'=zd1 H hs) β own w)):z1r P g ps bs hs p :=
 fun H hH=>⟨hp,h H hH⟩
end Go.Ab
namespace Go.Ab
variable {P:Program} {f:FuncId} {R:z3x} {k:List Item}
variable {n:Nat} {tm:List (Nat × PV)} {hp:Hp} {up:Hf}
theorem PR.take {β:Nm→Value} {w:World} {own:Nat→Prop} {m:Nm} {y:Nat} {p:PV} {v:Value} (h:PR β w own p v) (hs:p.says (0,y)=false):PR (z5g β y (β m)) w own (p.take m y) v:=by
 have h2:=h.reβ (β':=z5g β y (β m)) (0,y) (z2u β y _) hs
 cases p with
 | ptr q off =>
  simp only[PV.take]
  split
  · rename_i e;simp at e;subst e
    cases h with|ptr _ _ g hg=>exact .ptr _ _ g (by rw[z1w];exact hg)
  · exact h2
 | _=>exact h2
end Go.Ab
namespace Go.Ab
variable {P:Program} {f:FuncId} {R:z3x} {k:List Item} {all:Array Oper} {o:Oper} {l:List Oper}
variable {n:Nat} {tm:List (Nat × PV)} {hp:Hp} {up:Hf} {d:Nat} {ty:TypeId} {pos:String} {aft:Array Edge} {gd:Option (Nat × Bool)} {op:Op} {p:PV}
variable {k':List Item} {s s':St}
theorem Blk.lift_saysN (b:Blk) (j x:Nat):∀ i,(b.lift i).says (j+i,x)=b.says (j,x)
 | 0=>by
  cases b with
  | box cs =>
   exact zD23
  | rowp _ cs =>
   exact zD23
  | lp _ _ _ _ _ st _ _ =>
   show z4q (j,x) (z2y 0 st)=z4q (j,x) st
   have h0:∀ p:PV,p.lift 0=p:=by
    intro p
    refine PV.rec (motive_1:=fun p=>p.lift 0=p) (motive_2:=fun ps=>PV.liftL 0 ps=ps) ?_ ?_ ?_ ?_ ?_ ?_ ?_ ?_ ?_ ?_ ?_ ?_ ?_ ?_ ?_ p <;> intros <;> simp_all [PV.lift,PV.liftL]
   have:∀ st,z2y 0 st=st:=by
    intro st;induction st with
    | nil=>rfl
    | cons p r ih=>obtain⟨t,q⟩:=p;simp[z2y,h0,ih]
   rw[this]
  | _=>rfl
 | i+1=>by rw[Blk.lift_comp,← Nat.add_assoc,Blk.lift_says1];exact Blk.lift_saysN b j x i
def z8l (H:Hf) (m:Nm):Prop:=∀ e t b,e≤m.1→H e t=some b→b.says (m.1-e,m.2)=false
theorem zbf {H:Hf} {m:Nm} (h:z8l H m) {x:Nm} {c:Blk} (hc:z13 H x=some c):c.says m=false:=by
 obtain⟨e,t⟩:=x
 obtain⟨md,ms⟩:=m
 cases e with
 | zero=>exact h 0 t c (zAf _) hc
 | succ e =>
  simp only[z13] at hc
  cases hu:H (e+1) t with
  | none=>rw[hu] at hc;cases hc
  | some q =>
   rw[hu] at hc;simp at hc;subst hc
   by_cases hle:e+1≤md
   · have:=h (e+1) t q hle hu
     have hl:=Blk.lift_saysN q (md-(e+1)) ms (e+1)
     rw[show md-(e+1)+(e+1)=md by omega] at hl
     rw[hl];exact this
   · have:=Blk.lift_says0 (e-md) md ms q
     rw[show e-md+md+1=e+1 by omega] at this
     exact this
theorem zd2 {m:Nat × Nat} (hq:z3r (m.1+1,m.2) hp=true) (hup:z8l up m):z8l (push hp up) (m.1+1,m.2):=by
 intro e t b he hb
 cases e with
 | zero=>exact z4d hq hb
 | succ e =>
  have:=hup e t b (by omega) hb
  simpa[Nat.add_sub_add_right] using this
theorem zly (y md ms:Nat) {e kk:Nat} {xs:List (List D)} (hb:look hp y=some (.row e kk xs)) (hg:up md ms=some .gone) (hvol:R.vol (md,ms)) (hq:z3r (md+1,ms) hp=true) (hup:z8l up (md,ms))
 (h:Run P f R k ⟨n,z6p (md+1,ms) tm,(y,.gone)::z3l (md+1,ms) (0,y) hp,upd up (md,ms) (.row e kk xs)⟩):Run P f R k ⟨n,tm,hp,up⟩:=by
 refine Run.stepV (s:=⟨n,tm,hp,up⟩) (s':=⟨n,z6p (md+1,ms) tm,(y,.gone)::z3l (md+1,ms) (0,y) hp,upd up (md,ms) (.row e kk xs)⟩) (fun β own a w hr b' fs=>?_) h
 let β':Nm→Value:=fun m=>if m=(md+1,ms) then β (0,y) else β m
 have hne:∀ m,m≠(md+1,ms)→β' m=β m:=fun m hm=>by simp[β',hm]
 have hsame:β' (md+1,ms)=β' (0,y):=by simp[β']
 have hy:β' (0,y)=β (0,y):=hne _ (by simp)
 have hold:∀ m c,z13 (push hp up) m=some c→c.says (md+1,ms)=false:=fun m c hc=>zbf (zd2 (m:=(md,ms)) hq hup) hc
 have hgone:z13 (push hp up) (md+1,ms)=some .gone:=by simp[z13,push,hg,Blk.lift]
 have h1:HR (push hp up) β' own w:=by
  exact zD13
 have h2:=h1.alias (hp:=hp) hsame
 refine⟨β',own,a,w,⟨hr.size,hr.defers,fun t p hp'=>?_,?_⟩,Ext.refl _ _,fun m hm=>?_,.refl _ _⟩
 · exact zD52
 · have hrow:z13 (push (z3l (md+1,ms) (0,y) hp) up) (0,y)=some (.row e kk xs):=by
    show look (z3l (md+1,ms) (0,y) hp) y=_
    rw[z6a,hb];rfl
   have key:∀ m c,z13 (push ((y,.gone)::z3l (md+1,ms) (0,y) hp) (upd up (md,ms) (.row e kk xs))) m=some c→c.live=true→(m=(md+1,ms)∧c=.row e kk xs)∨(m≠(md+1,ms)∧m≠(0,y)∧z13 (push (z3l (md+1,ms) (0,y) hp) up) m=some c):=by
    intro m c hm hc
    rw[z2f] at hm
    by_cases e1:m=(0,y)
    · rw[zAy e1] at hm;simp at hm;subst hm;cases hc
    · rw[zAx e1,z5n,z3a] at hm
      by_cases e2:m=(md+1,ms)
      · rw[zAy e2] at hm;simp[atF,Blk.lift] at hm;exact .inl ⟨e2,hm.symm⟩
      · rw[zAx e2] at hm;exact .inr ⟨e2,e1,hm⟩
   exact zD7
 · refine hne _ fun e=>hm ?_
   simp only[Prod.mk.injEq] at e
   have:m=(md,ms):=Prod.ext (by omega) e.2
   subst this
   exact hvol
def zn7 (H:Hf) (bs:List (Nm × Blk)) (m:Nm):Prop:=∀ e t b,e≤m.1→(∀ q∈bs,q.1≠(e,t))→H e t=some b→b.says (m.1-e,m.2)=false
def z7w (P:Program) (g:FuncId) (args:List PV) (bs hs:List (Nm × Blk)) (p:PV) (m:Nm):Prop :=
 ∀ H:Hf,(∀ q∈bs,H q.1.1 q.1.2=some q.2)→zn7 H bs m→z9t P g args H ⟨fun r H'=>r=.v p∧H'=zd1 H hs,fun n=>n=m,none⟩
theorem zhy {g:FuncId} (hc:∀ β own a w,Rep s β own a w→∃ vals w1 own1,(execOp a.eval o).run P w=.ok (.enter g vals) w1∧Ext w own w1 own1 ∧
  Calls P g vals w1 fun e w'=>∃ v β' own' s',e=.returned v∧Rep s' β' own' (a.put o.dst v) w'∧Ext w1 own1 w' own'∧(∀ x,¬ R.vol x→z62 β' x=z62 β x)∧Ops P f R all l k s'):Op1 P f R all o l k s:=by
 intro i rest ho hrest β own a w hrep hw b hb hk hn cs
 obtain⟨vals,w1,own1,hrun,hext1,hcall⟩:=hc β own a w hrep
 obtain⟨e,w',fr,⟨v,β',own',s',rfl,hrep',hext,hout,hops⟩,hsteps,_,hleave⟩:=hcall (am b a (.inRegion all (i::rest)::k)::cs)
 have hn':z9u R (z62 β') b:=by
  exact zD50
 exact(((hops rest hrest β' own' _ w' hrep' b hb hk hn' cs).same hout).ext (hext1.trans hext)).of_steps (zew ho hw hrun hsteps hleave)
def zeg (P:Program) (m:Nm) (args:List PV) (H:Hf) (R:zac) (vol:Nm→Prop):Prop :=
 ∀ β own w vals L,HR H β own w→z7b β w own args vals→β m=.pointer (some ⟨L,0,none⟩) →
  ∃ g tmps asg body,(Instr.yield L vals.toArray).run P w=.ok (.round L g tmps asg body) w∧∀ (c:Frame) cs,∃ w' v r H' own' β',
   Steps P (lone (Frame.round L g tmps asg body .normal) (c::cs) w) (lone (c.finish v) cs w')∧R r H'∧RVR H' β' w' own' r v∧HR H' β' own' w'∧Ext w own w' own'∧∀ x,¬ vol x→β' x=β x
theorem zbd {m:Nm} {n':Nat} {f':FuncId} {ps:Array Tmp} {asg body:Code} {st:List (Nat × PV)} {pend:Option Code} (hrnd:R.rnd=some m) (hb:up m.1 m.2=some (.lp n' f' ps asg body st .ready pend))
 (h:Run P f R k ⟨n,tm,hp,upd up m (.lp n' f' ps asg body st .busy pend)⟩):Run P f R (.beginRound::k) ⟨n,tm,hp,up⟩:=by
 intro β own a w hrep b hb' hk hn cs
 have hn0:=hn
 unfold z9u at hn
 rw[hrnd] at hn
 obtain⟨hv,L,hL,hβ⟩:=hn
 have hlook:z13 (push hp up) (m.1+1,m.2)=some ((Blk.lp n' f' ps asg body st .ready pend).lift (m.1+1)):=by simp[z13,push,hb]
 have hbr:=hrep.heap.blk _ _ hlook
 have hβ':β (m.1+1,m.2)=.pointer (some ⟨L,0,none⟩):=hβ
 simp only[Blk.lift] at hbr
 generalize hgv:β (m.1+1,m.2)=vv at hbr
 cases hbr with
 | lp g _ _ _ _ _ _ _ _ tmps df ho hg hl hd =>
  rw[hβ'] at hgv
  simp at hgv
  subst hgv
  have hgl:L<w.heap.size:=(Array.getElem?_eq_some_iff.1 hg).1
  have hrun:=run_beginRound (P:=P) hg rfl
  obtain⟨w1,hw1⟩:∃ w1,w.putObj L (.loop { state:=.busy,pending:=pend,fn:=f',tmps:=tmps,params:=ps,assign:=asg,body:=body,defers:=df })=w1:=⟨_,rfl⟩
  rw[show ({ state:=LoopState.busy,pending:=pend,fn:=f',tmps:=tmps,params:=ps,assign:=asg,body:=body,defers:=df }:Loop)={ ({ state:=.ready,pending:=pend,fn:=f',tmps:=tmps,params:=ps,assign:=asg,body:=body,defers:=df }:Loop) with state:=.busy } from rfl] at hw1
  rw[hw1] at hrun
  have hoth:∀ g,g≠L→w1.heap[g]? =w.heap[g]?:=fun g hg'=>by rw[← hw1];exact World.putObj_heap_other hg'
  have hhere:w1.heap[L]? =some (.loop { state:=.busy,pending:=pend,fn:=f',tmps:=tmps,params:=ps,assign:=asg,body:=body,defers:=df }):=by rw[← hw1];exact World.putObj_heap_same hgl
  have hsz:w1.heap.size=w.heap.size:=by rw[← hw1];simp
  have hE:Ext w own w1 own:=⟨by rw[← hw1];rfl,by rw[← hw1];rfl,by rw[← hw1];rfl,by omega,fun g hg' hog=>hoth g fun e=>hog (e▸ho),fun _ _ h=>h⟩
  have hR1:=hrep.heap.change (m:=(m.1+1,m.2)) (raw:=.lp n' f' ps asg body st .busy pend) hlook rfl hE hsz (fun g hg'=>hoth g fun e=>hg' (by rw[hβ',e];rfl)) (by
   rw[hβ']
   show BR β w1 own _ (.lp n' f' ps asg body (z2y (m.1+1) st) .busy pend)
   exact .lp L n' f' ps asg body _ .busy pend tmps df ho hhere hl fun t p hp=>(hd t p hp).mono hE)
  have hrep1:Rep ⟨n,tm,hp,upd up m (.lp n' f' ps asg body st .busy pend)⟩ β own a w1:=⟨hrep.size,hrep.defers,fun t p hp=>(hrep.tm t p hp).mono hE,by rw[show upd up m (.lp n' f' ps asg body st .busy pend)=upd up (m.1,m.2) (.lp n' f' ps asg body st .busy pend) from rfl,z5n];exact hR1⟩
  exact((h β own a w1 hrep1 b hb' hk hn0 cs).ext hE).of_steps (.one (stepR_beginRound hL hrun))
end Go.Ab
namespace Go.Ab
variable {P:Program} {f:FuncId} {R:z3x} {k:List Item} {all:Array Oper} {o:Oper} {l:List Oper}
variable {n:Nat} {tm:List (Nat × PV)} {hp:Hp} {up:Hf} {d:Nat} {ty:TypeId} {pos:String} {aft:Array Edge} {gd:Option (Nat × Bool)} {op:Op} {p:PV}
variable {k':List Item} {s s':St}
theorem zf0 {H:Hf} {β:Nm→Value} {own:Nat→Prop} {w:World} (hr:HR H β own w) {m:Nm} {n':Nat} {f':FuncId} {ps:Array Tmp} {asg body:Code} {st:List (Nat × PV)} {state:LoopState} {pend:Option Code} (hb:H m.1 m.2=some (.lp n' f' ps asg body st state pend)) :
 ∃ L tmps df,β m=.pointer (some ⟨L,0,none⟩)∧own L∧w.heap[L]? =some (.loop { state,pending:=pend,fn:=f',tmps,params:=ps,assign:=asg,body,defers:=df })∧tmps.size=n' ∧
  ∀ t q,(t,q)∈st→PR (inn β) w own (q.lift (m.1+1)) (tmps.getD t undef):=by
 obtain⟨md,ms⟩:=m
 cases md with
 | zero =>
  have hbr:=hr.blk (0,ms) _ (show z13 H (0,ms)=some _ from hb)
  generalize hgv:β (0,ms)=vv at hbr
  cases hbr with
  | lp g _ _ _ _ _ _ _ _ tmps df ho hg hl hd=>exact⟨g,tmps,df,rfl,ho,hg,hl,fun t q hq=>PR.lift (β:=inn β) (by rw[z6f];exact hd t q hq)⟩
 | succ md =>
  have hbr:=hr.blk (md+1,ms) _ (show z13 H (md+1,ms)=some _ by simp only[z13,hb];rfl)
  simp only[Blk.lift] at hbr
  generalize hgv:β (md+1,ms)=vv at hbr
  cases hbr with
  | lp g _ _ _ _ _ _ _ _ tmps df ho hg hl hd =>
   refine⟨g,tmps,df,rfl,ho,hg,hl,fun t q hq=>?_⟩
   have:=PR.lift (β:=inn β) (by rw[z6f];exact hd t _ (z8q hq))
   rwa [PV.lift_lift] at this
theorem zqa {H:Hf} {β:Nm→Value} {own:Nat→Prop} {w:World} (hr:HR H β own w) {m:Nm} {n':Nat} {f':FuncId} {ps:Array Tmp} {asg body:Code} {st:List (Nat × PV)} {state state':LoopState} {pend pend':Option Code} (hb:H m.1 m.2=some (.lp n' f' ps asg body st state pend))
 {L:Nat} {tmps:Array Value} {df:Nat} (hβ:β m=.pointer (some ⟨L,0,none⟩)) (ho:own L) (hg:w.heap[L]? =some (.loop { state,pending:=pend,fn:=f',tmps,params:=ps,assign:=asg,body,defers:=df })) :
 Ext w own (w.putObj L (.loop { state:=state',pending:=pend',fn:=f',tmps,params:=ps,assign:=asg,body,defers:=df })) own ∧
 HR (upd H m (.lp n' f' ps asg body st state' pend')) β own (w.putObj L (.loop { state:=state',pending:=pend',fn:=f',tmps,params:=ps,assign:=asg,body,defers:=df })):=by
 obtain⟨w1,hw1⟩:∃ w1,w.putObj L (.loop { state:=state',pending:=pend',fn:=f',tmps,params:=ps,assign:=asg,body,defers:=df })=w1:=⟨_,rfl⟩
 rw[hw1]
 have hgl:L<w.heap.size:=(Array.getElem?_eq_some_iff.1 hg).1
 have hoth:∀ g,g≠L→w1.heap[g]? =w.heap[g]?:=fun g hg'=>by rw[← hw1];exact World.putObj_heap_other hg'
 have hhere:w1.heap[L]? =some (.loop { state:=state',pending:=pend',fn:=f',tmps:=tmps,params:=ps,assign:=asg,body:=body,defers:=df }):=by rw[← hw1];exact World.putObj_heap_same hgl
 have hsz:w1.heap.size=w.heap.size:=by rw[← hw1];simp
 have hE:Ext w own w1 own:=⟨by rw[← hw1];rfl,by rw[← hw1];rfl,by rw[← hw1];rfl,by omega,fun g hg' hog=>hoth g fun e=>hog (e▸ho),fun _ _ h=>h⟩
 refine⟨hE,?_⟩
 obtain⟨md,ms⟩:=m
 cases md with
 | zero =>
  have hlook:z13 H (0,ms)=some (.lp n' f' ps asg body st state pend):=hb
  have hbr:=hr.blk (0,ms) _ hlook
  refine hr.change (m:=(0,ms)) (raw:=.lp n' f' ps asg body st state' pend') hlook rfl hE hsz (fun g hg'=>hoth g fun e=>hg' (by rw[hβ,e];rfl)) ?_
  show BR β w1 own (β (0,ms)) (.lp n' f' ps asg body st state' pend')
  exact zD40
 | succ md =>
  have hlook:z13 H (md+1,ms)=some (.lp n' f' ps asg body (z2y (md+1) st) state pend):=by
   simp only at hb;simp only[z13,hb];rfl
  have hbr:=hr.blk (md+1,ms) _ hlook
  refine hr.change (m:=(md+1,ms)) (raw:=.lp n' f' ps asg body st state' pend') hlook rfl hE hsz (fun g hg'=>hoth g fun e=>hg' (by rw[hβ,e];rfl)) ?_
  show BR β w1 own (β (md+1,ms)) (.lp n' f' ps asg body (z2y (md+1) st) state' pend')
  exact zD40
def zn2 (n':Nat) (f':FuncId) (ps:Array Tmp) (asg body:Code) (st:List (Nat × PV)) (jump:Option Code):Blk:=.lp n' f' ps asg body st (if jump.isNone then .ready else .done) jump
theorem zn6 {fr:Frame} (h:fr.mode=.run):fr=fr.atR { tmps:=fr.tmps,defers:=fr.defers } fr.todo:=by
 cases fr;simp at h;subst h;rfl
theorem zv2 {m:Nm} {H:Hf} {n':Nat} {f':FuncId} {t0:Tmp} {asg body:Code} {st:List (Nat × PV)} {arg:PV} {R2 R':zac} {vol:Nm→Prop} {pend:Option Code}
 (hb:H m.1 m.2=some (.lp n' f' #[t0] asg body st .ready pend)) (ht0:t0<n') (hvm:¬ vol m)
 (h:Run P f' ⟨R2,vol,some m⟩ [.code asg,.beginRound,.code body] ⟨n',(t0,arg.lift 1)::z2y (m.1+1) st,[],H⟩)
 (hend:∀ H',R2 (.v (B true)) H'→∃ st' pd,H' m.1 m.2=some (.lp n' f' #[t0] asg body st' .busy pd)∧R' (.v (B true)) (upd H' m (zn2 n' f' #[t0] asg body st' none)))
 (hret:∀ H',R2 (.v (B false)) H'→∃ st' pd,H' m.1 m.2=some (.lp n' f' #[t0] asg body st' .busy pd)∧R' (.v (B false)) (upd H' m (zn2 n' f' #[t0] asg body st' (some .ret))))
 (hexit:∀ (id:Nat) H',R2 (.v (I .i64 (id:Nat))) H'→∃ st' pd,H' m.1 m.2=some (.lp n' f' #[t0] asg body st' .busy pd)∧R' (.v (B false)) (upd H' m (zn2 n' f' #[t0] asg body st' (some (.exit id))))) :
 zeg P m [arg] H R' vol:=by
 intro β own w vals L0 hr hargs hβ0
 obtain⟨L,tmps,df,hβ,ho,hg,hsz,hfacts⟩:=zf0 hr hb
 obtain rfl:L0=L:=by rw[hβ] at hβ0;simpa using hβ0.symm
 obtain⟨hl,ha⟩:=hargs
 obtain⟨v,rfl⟩:∃ v,vals=[v]:=by
  match vals,hl with
  | [v],_=>exact⟨v,rfl⟩
 have hav:=ha 0 arg v rfl rfl
 refine⟨f',tmps.setIfInBounds t0 v,asg,body,?_,fun c cs=>?_⟩
 · have:=run_yield (P:=P) (args:=[v].toArray) hg (by simp)
   simpa using this
 let b:Frame:={ fn:=f',tmps:=#[],todo:=[],defers:=[],mode:=.run,kind:=.normal,roundOf:=some L0 }
 have hstart:Frame.round L0 f' (tmps.setIfInBounds t0 v) asg body .normal=am b { tmps:=tmps.setIfInBounds t0 v,defers:=[] } [.code asg,.beginRound,.code body]:=by
  simp[Frame.round,am,Frame.atR,b]
 have hrep:Rep ⟨n',(t0,arg.lift 1)::z2y (m.1+1) st,[],H⟩ (inn β) own { tmps:=tmps.setIfInBounds t0 v,defers:=[] } w:=by
  refine⟨by simpa using hsz,rfl,fun t p hp=>?_,hr.inner⟩
  simp only[look] at hp
  split at hp
  · rename_i e;subst e
    simp at hp;subst hp
    have:(tmps.setIfInBounds t0 v).getD t0 undef=v:=by simp[Array.getD_eq_getD_getElem?,hsz,ht0]
    rw[this]
    exact PR.lift (β:=inn β) (by rw[z6f];exact hav)
  · rename_i e
    have hmem:∀ {l:List (Nat × PV)} {t:Nat} {p:PV},look l t=some p→(t,p)∈l:=by
     intro l
     induction l with
     | nil=>intro t p h;simp[look] at h
     | cons x r ih =>
      obtain⟨u,q⟩:=x
      intro t p h
      simp only[look] at h
      split at h
      · rename_i e;subst e;simp at h;subst h;simp
      · exact List.mem_cons_of_mem _ (ih h)
    obtain⟨q,h1,rfl⟩:=za0 (hmem hp)
    have hne:(tmps.setIfInBounds t0 v).getD t undef=tmps.getD t undef:=by
     simp only[Array.getD_eq_getD_getElem?];rw[Array.getElem?_setIfInBounds_ne e]
    rw[hne]
    exact hfacts t q h1
 obtain⟨w',fr,r,H',ownm,β',h1,h2,h3,h4,h5,h6,h7,h8,v',h9,h10,h11⟩:=h (inn β) own _ w hrep b rfl rfl ⟨hvm,L0,rfl,by rw[z6f];exact hβ⟩ (c::cs)
 rw[z6f] at h6
 subst h10
 have hβm:β' m=.pointer (some ⟨L0,0,none⟩):=(h6 m hvm).trans hβ
 have hfr:=zn6 h7
 have fin:∀ (jump:Option Code) (st':List (Nat × PV)) (pd:Option Code) (vv:Bool),H' m.1 m.2=some (.lp n' f' #[t0] asg body st' .busy pd)→R' (.v (B vv)) (upd H' m (zn2 n' f' #[t0] asg body st' jump))→jump.isNone=vv →
  (∀ w2,(Instr.endRound L0 jump).run P w'=.ok (.bool vv) w2→step P (lone fr (c::cs) w')=.next (lone (c.finish (.bool vv)) cs w2)) →
  ∃ w' v' r H' own' β',Steps P (lone (Frame.round L0 f' (tmps.setIfInBounds t0 v) asg body .normal) (c::cs) w) (lone (c.finish v') cs w')∧R' r H'∧RVR H' β' w' own' r v'∧HR H' β' own' w'∧Ext w own w' own'∧∀ x,¬ vol x→β' x=β x:=by
  intro jump st' pd vv hb' hR' hj hstep
  obtain⟨L',tmps',df',hβ'',ho',hg',_,_⟩:=zf0 h11 hb'
  obtain rfl:L0=L':=by rw[hβ''] at hβm;simpa using hβm.symm
  have hrun:=run_endRound (P:=P) jump hg'
  rw[hj] at hrun
  obtain⟨hE,hR2⟩:=zqa (state':=if jump.isNone then .ready else .done) (pend':=jump) h11 hb' hβ'' ho' hg'
  rw[hj] at hE hR2
  have hst:=hstep _ hrun
  refine⟨_,_,_,_,ownm,β',Steps.trans (by rw[hstart];exact h1) (.one hst),hR',.v _ _ (.d _ _ (.lit _ rfl)),?_,h5.trans hE,h6⟩
  rw[zn2,hj];exact hR2
 rcases h9 with ⟨e1,rfl⟩|⟨⟨k',e1⟩,rfl⟩|⟨id,k',e1,e2,rfl⟩
 · obtain⟨st',pd,hb',hR'⟩:=hend H' h4
   refine fin none st' pd true hb' hR' rfl fun w2 hw2=>?_
   rw[hfr,e1]
   exact stepR_round_end (b:=fr) (by rw[h8]) h3 hw2
 · obtain⟨st',pd,hb',hR'⟩:=hret H' h4
   refine fin (some .ret) st' pd false hb' hR' rfl fun w2 hw2=>?_
   rw[hfr,e1]
   exact stepR_round_ret (b:=fr) (by rw[h8]) h3 hw2
 · obtain⟨st',pd,hb',hR'⟩:=hexit id H' h4
   refine fin (some (.exit id)) st' pd false hb' hR' rfl fun w2 hw2=>?_
   rw[hfr,e1]
   exact stepR_round_exit (b:=fr) (by rw[h8]) h3 e2 hw2
theorem zrx {fo:Operand} {args:List Operand} {m mv:Nm} {ps:List PV} {ats:Array TypeId} {R':zac} (hsp:zeg P m ps (push hp up) R' (fun x=>x=mv)) (hfo:St.ev ⟨n,tm,hp,up⟩ fo=some (.yl m)) (hev:St.evs ⟨n,tm,hp,up⟩ args=some ps)
 (hv:∀ x:Nm,mv=(x.1+1,x.2)→R.vol x) (hd:d<n) (hk:∀ r H,R' r H→∃ p hp' up',r=.v p∧H=push hp' up'∧Ops P f R all l k ⟨n,(d,p)::z6p mv tm,hp',up'⟩) :
 Op1 P f R all ⟨some d,.call ⟨.value fo,args.toArray,ats⟩,ty,pos,aft,gd⟩ l k ⟨n,tm,hp,up⟩:=by
 intro i rest ho hrest β own a w hrep hw b hb hk' hn cs
 have hfv:=hrep.ev hfo
 generalize hvv:a.eval fo=vv at hfv
 cases hfv with
 | yl _ L hβ =>
  have hargs:=hrep.evs hev
  obtain⟨g,tmps,asg,body,hrun,hround⟩:=hsp β own w (args.map a.eval) L hrep.heap hargs hβ
  have hexec:(execOp a.eval ⟨some d,.call ⟨.value fo,args.toArray,ats⟩,ty,pos,aft,gd⟩).run P w=.ok (.round L g tmps asg body) w:=by
   simp[execOp,resolve,hvv,Deferred.ofValue,invoke]
   simpa using hrun
  obtain⟨w',v,r,H,own',β',hst,hR,hrv,hheap,hext,hβ'⟩:=hround (am b a (.inRegion all (i::rest)::k)) cs
  obtain⟨p,hp',up',rfl,rfl,hops⟩:=hk r H hR
  have hout:∀ x,¬ R.vol x→z62 β' x=z62 β x:=fun x hx=>hβ' _ fun e=>hx (hv x e.symm)
  have hn':z9u R (z62 β') b:=by
   exact zD50
  cases hrv with
  | v _ _ hpv =>
   have hr':Rep ⟨n,z6p mv tm,hp',up'⟩ β' own' a w':=by
    refine⟨hrep.size,hrep.defers,fun t q hq=>?_,hheap⟩
    simp only at hq
    rw[z5r] at hq
    cases hq':look tm t with
    | none=>rw[hq'] at hq;cases hq
    | some q0=>rw[hq'] at hq;simp at hq;subst hq;exact((hrep.tm t q0 hq').mono hext).drop hβ'
   have hr2:=hr'.put (dst:=some d) (p:=p) (v:=v) (by simp[St.fits,hd]) hpv
   have hgo:=stepGR_op (P:=P) (b:=b) (a:={ a with defers:=b.defers }) (k:=k) (cs:=cs) (w:=w) (rest:=rest) ho hw
   have hfin:∀ v,(am b a (.inRegion all (i::rest)::k)).finish v=am b (a.put (some d) v) (.inRegion all rest::k):=by
    intro v;rw[z7p,ho];rfl
   have hsem:=z7m (ro:=b.roundOf) hexec (by simp)
   rw[← z9c b a] at hsem
   have henter:step P (lone (am b a (.inRegion all (i::rest)::k)) cs w)=.next (lone (Frame.round L g tmps asg body .normal) (am b a (.inRegion all (i::rest)::k)::cs) w) :=
    step_lone_go (by
     rw[show am b a (.inRegion all (i::rest)::k)=b.atR { a with defers:=b.defers } (.inRegion all (i::rest)::k) from rfl]
     rw[hgo];simp[stepG.apply,hsem,Frame.atR])
   rw[hfin] at hst
   exact(((hops rest hrest β' own' _ w' hr2 b hb hk' hn' cs).same hout).ext hext).of_steps (.head henter hst)
end Go.Ab
namespace Go.Ab
variable {P:Program} {f:FuncId} {R:z3x} {k:List Item}
variable {n:Nat} {tm:List (Nat × PV)} {hp:Hp} {up:Hf}
theorem z8p (ls ms:Nat) (st:List (Nat × PV)) {g:Operand} {ps:Array Tmp} {asg body:Code} {gf:FuncId} {cap:List PV} {R':z3x} (hrnd:R.rnd=none) (hgv:St.ev ⟨n,tm,hp,up⟩ g=some (.fn (.func gf) [] cap))
 (hst:zu3 st tm) (hfr:(z1d ls hp&&z1h ls tm)=true) (hms:(ms == ls)=false)
 (hsp:z9t P gf (.yl (0,ls)::cap) (push ((ls,.lp n f ps asg body st .ready none)::hp) up) R') (hv:∀ m,R'.vol m→m=(0,ms))
 (hk:∀ r H,R'.post r H→∃ state jump st' hp' up',H=push ((ls,.lp n f ps asg body st' state jump)::hp') up'∧state≠.busy∧Run P f R ((jump.map Item.code).toList++k) ⟨n,z6p (0,ms) tm,(ls,.gone)::hp',up'⟩) :
 Run P f R (.code (.rangeFunc g ps asg body)::k) ⟨n,tm,hp,up⟩:=by
 intro β own a w hrep b hb hbk hn cs
 have hb0:b.roundOf=none:=by rw[z9u,hrnd] at hn;exact hn
 have hfr':=hfr
 simp only[zA7] at hfr'
 have hsub:=zwu hst
 obtain⟨L,hL⟩:∃ L,w.heap.size+1=L:=⟨_,rfl⟩
 obtain⟨w0,hw0⟩:∃ w0,w.alloc (.deferred (some []))=w0:=⟨_,rfl⟩
 obtain⟨lo,hlo⟩:∃ lo:Loop,lo={ state:=.ready,pending:=none,fn:=f,tmps:=a.tmps,params:=ps,assign:=asg,body,defers:=w.heap.size }:=⟨_,rfl⟩
 obtain⟨w1,hw1⟩:∃ w1,w0.alloc (.loop lo)=w1:=⟨_,rfl⟩
 have hs0:w0.heap.size=w.heap.size+1:=by rw[← hw0];exact World.size_alloc _ _
 have hs1:w1.heap.size=w.heap.size+2:=by rw[← hw1,World.size_alloc,hs0]
 have hoth:∀ i,i<w.heap.size→w1.heap[i]? =w.heap[i]?:=fun i hi=>by
  rw[← hw1,z7q _ _ _ (by omega),← hw0,z7q _ _ _ hi]
 have hD1:w1.heap[w.heap.size]? =some (.deferred (some [])):=by
  rw[← hw1,z7q _ _ _ (by omega),← hw0];exact World.alloc_heap_new _ _
 have hL1:w1.heap[L]? =some (.loop lo):=by
  rw[← hw1,← hL,← hs0];exact World.alloc_heap_new _ _
 -- the own blocks now
 let own1:Nat→Prop:=fun g=>own g∨g=L
 have hE1:Ext w own w1 own1:=⟨by rw[← hw1,← hw0];rfl,by rw[← hw1,← hw0];rfl,by rw[← hw1,← hw0];rfl,by omega,fun i hi _=>hoth i hi,fun i hi ho h=>by
  rcases h with h|h
  · exact ho h
  · omega⟩
 have hrep1:Rep ⟨n,tm,(ls,.lp n f ps asg body st .ready none)::hp,up⟩ (z5g β ls (.pointer (some ⟨L,0,none⟩))) own1 a w1:=by
  refine hrep.install hfr hE1 (fun i hi=>?_) (fun m c hm hc hne i hi=>⟨hoth i (hrep.heap.lt i ((hrep.heap.blk m c hm).block_lt hc hi)),.inl ((hrep.heap.blk m c hm).block_lt hc hi),fun _ e=>?_⟩) ?_
  · rcases hi with hi|rfl
    · have:=hrep.heap.lt i hi;omega
    · omega
  · simp[z1y] at e
    have:=hrep.heap.lt i ((hrep.heap.blk m c hm).block_lt hc hi)
    omega
  · refine .lp L n f ps asg body st .ready none a.tmps w.heap.size (.inr rfl) (by rw[hL1,hlo]) hrep.size fun t p hp=>?_
    have hlook:look tm t=some p:=by
     have:∀ {l:List (Nat × PV)},Sub l tm→(t,p)∈l→look tm t=some p:=by
      intro l
      induction l with
      | nil=>intro _ h;simp at h
      | cons x r ih =>
       obtain⟨u,q⟩:=x
       intro hs h
       rw[zAc] at h
       rcases h with e|h
       · simp at e;rw[e.1,e.2];exact hs.1
       · exact ih hs.2 h
     exact this hsub hp
    exact((hrep.tm t p hlook).mono hE1).reβ (0,ls) (z2u β ls _) (z6n hfr'.2 hlook)
 obtain⟨β1,hβ1⟩:∃ β1,z5g β ls (.pointer (some ⟨L,0,none⟩))=β1:=⟨_,rfl⟩
 rw[hβ1] at hrep1
 have hβ1L:β1 (0,ls)=.pointer (some ⟨L,0,none⟩):=by rw[← hβ1,z1w]
 have ho1:z62 β1=z62 β:=by rw[← hβ1];exact z2w _ _ _
 -- the call
 have hgr:=hrep1.ev (x:=g) hgv
 generalize hvv:a.eval g=vv at hgr
 cases hgr with
 | fn _ _ _ fv cv hl hl' hd hd' =>
  have hfv:fv=[]:=by simpa using hl.symm
  subst hfv
  obtain⟨fn,hfn,hname,hbody⟩:=hsp.plain
  have hbc:∃ c,fn.body=some c:=by cases hc:fn.body with|none=>rw[hc] at hbody;cases hbody|some c=>exact⟨c,rfl⟩
  obtain⟨c,hbc⟩:=hbc
  have hname':¬ (fn.name= "runtime.NumGoroutine"):=by simpa using hname
  have hargs:z7b β1 w1 own1 (.yl (0,ls)::cap) (.func (.yield L) #[] #[]::cv):=by
   refine⟨by simp[hl'],fun j p v hp hv=>?_⟩
   cases j with
   | zero=>simp at hp hv;subst hp;subst hv;exact .yl _ L hβ1L
   | succ j=>exact hd' j p v (by simpa using hp) (by simpa using hv)
  let b2:Frame:={ b with defers:=mark w.heap.size::b.defers }
  have hstep:step P (lone (am b a (.code (.rangeFunc g ps asg body)::k)) cs w)=.next (lone (Frame.enter P gf (.func (.yield L) #[] #[]::cv).toArray .normal) (am b2 a (.inRangeFunc L::k)::cs) w1):=by
   have he:(Instr.enterLoop b.fn ({ a with defers:=b.defers }:Act).tmps ps asg body b.roundOf).run P w=.ok (L,[mark w.heap.size]) w1:=by
    rw[hb0]
    have:=run_enterLoop_outer (P:=P) (w:=w) b.fn a.tmps ps asg body
    rw[hb,hw0] at this
    rw[hb,this,← hw1,hlo,hL];rfl
   have hev:({ a with defers:=b.defers }:Act).eval g=.func (.func gf) #[] cv.toArray:=by rw[zh2];simpa using hvv
   exact stepR_rangeFunc (P:=P) (b:=b) (a:={ a with defers:=b.defers }) (k:=k) (cs:=cs) (d:={ target:=.fn (.func gf) cv.toArray,args:=#[.func (.yield L) #[] #[]] }) (w₁':=w1) (w₂:=w1) he
    (by simp only[resolve,hev];simp[Deferred.ofValue,Act.eval]) (by simp[invoke,callFunc,hfn,hname',hbc])
  obtain⟨e,w2,fr,⟨v,r,H,own2,β2,rfl,hR,hrv,hheap,hext,hβ2⟩,hcomes,hfrf,hleave⟩:=hsp.run β1 own1 w1 _ hrep1.heap hargs (am b2 a (.inRangeFunc L::k)::cs)
  obtain⟨state,jump,st',hp',up',rfl,hbusy,hrun⟩:=hk r H hR
  have hne:∀ x,x≠(0,ms)→β2 x=β1 x:=fun x hx=>hβ2 x fun h=>hx (hv x h)
  have hlsms:((0,ls):Nm)≠(0,ms):=by
   intro e;simp at e;simp at hms;exact hms e.symm
  have hβ2L:β2 (0,ls)=.pointer (some ⟨L,0,none⟩):=(hne _ hlsms).trans hβ1L
  have hblk:(push ((ls,.lp n f ps asg body st' state jump)::hp') up') (0,ls).1 (0,ls).2=some (.lp n f ps asg body st' state jump):=by simp[push,look]
  obtain⟨L',tmps',df',hβ',ho',hg',_,_⟩:=zf0 hheap hblk
  obtain rfl:L=L':=by rw[hβ2L] at hβ';simpa using hβ'
  have hrunE:=run_endLoop (P:=P) hg' hbusy
  obtain⟨hE2,hR2⟩:=zqa (state':=.exhausted) (pend':=jump) hheap hblk hβ' ho' hg'
  obtain⟨w3,hw3⟩:∃ w3,w2.putObj L (.loop { state:=.exhausted,pending:=jump,fn:=f,tmps:=tmps',params:=ps,assign:=asg,body:=body,defers:=df' })=w3:=⟨_,rfl⟩
  rw[hw3] at hE2 hR2
  have hrunE':(Instr.endLoop L).run P w2=.ok jump w3:=by rw[hrunE,← hw3]
  -- the state behind the loop
  have hrep3:Rep ⟨n,z6p (0,ms) tm,(ls,.gone)::hp',up'⟩ β2 own2 a w3:=by
   refine⟨hrep1.size,hrep1.defers,fun t p hp=>?_,?_⟩
   · simp only at hp
     rw[z5r] at hp
     cases hq:look tm t with
     | none=>rw[hq] at hp;cases hp
     | some q=>rw[hq] at hp;simp at hp;subst hp;exact((hrep1.tm t q hq).mono (hext.trans hE2)).drop hne
   · have:=hR2.drop (0,ls)
     refine⟨fun m c hm=>?_,fun m1 m2 c1 c2 h1 h2 l1 l2 hn'=>?_,this.lt⟩
     · rw[z2f] at hm
       by_cases e:m=(0,ls)
       · rw[zAy e] at hm;simp at hm;subst hm;exact .gone _
       · rw[zAx e] at hm
         refine this.blk m c ?_
         rw[z3a,zAx e,z3a,zAx e,z2f,zAx e];exact hm
     · have key:∀ m c,z13 (push ((ls,.gone)::hp') up') m=some c→c.live=true→z13 (upd (upd (push ((ls,.lp n f ps asg body st' state jump)::hp') up') (0,ls) (.lp n f ps asg body st' .exhausted jump)) (0,ls) .gone) m=some c:=by
        intro m c hm hc
        rw[z2f] at hm
        by_cases e:m=(0,ls)
        · rw[zAy e] at hm;simp at hm;subst hm;cases hc
        · rw[zAx e] at hm
          rw[z3a,zAx e,z3a,zAx e,z2f,zAx e];exact hm
       exact this.inj m1 m2 c1 c2 (key m1 c1 h1 l1) (key m2 c2 h2 l2) l1 l2 hn'
  have hob:z62 β2=z62 β:=by
   rw[← ho1];funext x;exact hne _ (by simp)
  have hn2:z9u R (z62 β2) b2:=by rw[z9u,hrnd];exact hb0
  have hD2:w.heap.size<w1.heap.size∧¬ own1 w.heap.size:=⟨by omega,fun h=>by
   rcases h with h|h
   · have:=hrep.heap.lt _ h;omega
   · omega⟩
  obtain⟨w',fr',r',H',ownm,β',h1,h2,h3,h4,h5,h6,h7⟩:=hrun β2 own2 a w3 hrep3 b2 hb hbk hn2 cs
  rw[hob] at h6
  rw[hrnd] at h7
  obtain⟨a1,⟨Ds,a2,a3,a4⟩,a5⟩:=h7
  have hext3:=hext.trans hE2
  have hD3:w3.heap[w.heap.size]? =some (.deferred (some [])):=by rw[hext3.block _ hD2.1 hD2.2];exact hD1
  have hD4:w'.heap[w.heap.size]? =some (.deferred (some [])):=by
   rw[h5.block _ (zAw hD2.1 hext3.size) (hext3.owns _ hD2.1 hD2.2)];exact hD3
  have hsteps:Steps P (lone (am b a (.code (.rangeFunc g ps asg body)::k)) cs w) (lone (am b2 a ((jump.map Item.code).toList++k)) cs w3):=by
   refine .head hstep (Steps.trans hcomes (.head (step_leave_returned hleave) (.one ?_)))
   rw[am,finish_atR_inRangeFunc]
   exact stepR_endRangeFunc hrunE'
  refine⟨w',fr',r',H',ownm,β',Steps.trans hsteps h1,h2,h3,h4,(hE1.trans hext3).trans h5,h6,?_⟩
  rw[hrnd]
  refine⟨a1,⟨Ds++[w.heap.size],by rw[a2];simp[b2],?_,fun D hD=>?_⟩,a5⟩
  · rw[List.nodup_append]
    refine⟨a3,by simp,fun x hx y hy=>?_⟩
    simp at hy;subst hy
    have:=(a4 x hx).1
    have h3s:w1.heap.size≤w3.heap.size:=hext3.size
    omega
  · rw[zAs,zAp] at hD
    rcases hD with hD|rfl
    · exact⟨by have:=(a4 D hD).1;have h3s:w1.heap.size≤w3.heap.size:=hext3.size;omega,(a4 D hD).2⟩
    · exact⟨zAj _,hD4⟩
end Go.Ab
namespace Go.Ab
variable {P:Program} {f:FuncId} {R:z3x} {k:List Item} {all:Array Oper} {o:Oper} {l:List Oper}
variable {n:Nat} {tm:List (Nat × PV)} {hp:Hp} {up:Hf} {d:Nat} {ty:TypeId} {pos:String} {aft:Array Edge} {gd:Option (Nat × Bool)} {op:Op} {p:PV}
theorem zft {m:Nm}:∀ {tm:List (Nat × PV)},z4q m tm=false→z6p m tm=tm
 | [],_=>rfl
 | (t,p)::r,h=>by
  simp only[z4q,Bool.or_eq_false_iff] at h
  rw[z6p,h.1,zft h.2];rfl
theorem bkN {e t:Nat} {b:Blk} (h:up e t=some b):BkE ⟨n,tm,hp,up⟩ [((e+1,t),b)]:=by
 simp only[BkE,List.map_cons,List.map_nil,List.cons.injEq,and_true];exact h
theorem zeh {fo:Operand} {args:List Operand} {m mv:Nm} {ps:List PV} {ats:Array TypeId} {up':Hf} (hsp:zeg P m ps (push hp up) (fun r H'=>r=.v p∧H'=push hp up') (fun x=>x=(mv.1+1,mv.2))) (hfo:St.ev ⟨n,tm,hp,up⟩ fo=some (.yl m)) (hev:St.evs ⟨n,tm,hp,up⟩ args=some ps)
 (hq:z4q (mv.1+1,mv.2) tm=false) (hv:R.vol mv) (hd:d<n) (h:Ops P f R all l k ⟨n,(d,p)::tm,hp,up'⟩) :
 Op1 P f R all ⟨some d,.call ⟨.value fo,args.toArray,ats⟩,ty,pos,aft,gd⟩ l k ⟨n,tm,hp,up⟩:=by
 refine zrx hsp hfo hev (fun x e=>?_) hd (fun r H hr=>?_)
 · have e1:=congrArg Prod.fst e
   have e2:=congrArg Prod.snd e
   have:x=mv:=Prod.ext (by simp at e1;omega) e2.symm
   rw[this];exact hv
 · obtain⟨rfl,rfl⟩:=hr
   rw[zft hq]
   exact⟨p,hp,up',rfl,rfl,h⟩
end Go.Ab
namespace Go.Ab
variable {P:Program} {f:FuncId} {R:z3x} {k:List Item} {all:Array Oper} {o:Oper} {l:List Oper}
variable {n:Nat} {tm:List (Nat × PV)} {hp:Hp} {up:Hf} {d:Nat} {ty:TypeId} {pos:String} {aft:Array Edge} {gd:Option (Nat × Bool)} {op:Op} {p:PV}
def PV.give1 (y:Nat) (m:Nm):PV→PV
 | .ptr q off=>if q == (0,y) then .ptr m off else .ptr q off
 | p=>p
def PV.giveF (y:Nat) (m:Nm):PV→PV
 | .fn g first cap=>.fn g (first.map (PV.give1 y m)) (cap.map (PV.give1 y m))
 | p=>p.give1 y m
def zg9 (y:Nat) (m:Nm):List (Nat × PV)→List (Nat × PV)
 | []=>[]
 | (t,p)::r=>(t,if p.says m then .any else p.giveF y m)::zg9 y m r
theorem zbj {m:Nm} {y:Nat}:∀ {tm:List (Nat × PV)} {t:Nat},look (zg9 y m tm) t=(look tm t).map fun p=>if p.says m then .any else p.giveF y m
 | [],t=>rfl
 | (k,p)::r,t=>by
  simp only[zg9,look]
  split
  · rfl
  · exact zbj
theorem PR.give1 {β:Nm→Value} {w:World} {own:Nat→Prop} {m:Nm} {y:Nat} (hm:β m=β (0,y)) {p:PV} {v:Value} (h:PR β w own p v):PR β w own (p.give1 y m) v:=by
 cases p with
 | ptr q off =>
  simp only[PV.give1]
  split
  · rename_i e;simp at e;subst e
    cases h with|ptr _ _ g hg=>exact .ptr _ _ g (by rw[hm];exact hg)
  · exact h
 | _=>exact h
theorem PR.giveF {β:Nm→Value} {w:World} {own:Nat→Prop} {m:Nm} {y:Nat} (hm:β m=β (0,y)) {p:PV} {v:Value} (h:PR β w own p v):PR β w own (p.giveF y m) v:=by
 cases p with
 | fn g first cap =>
  cases h with
  | fn _ _ _ fv cv h1 h2 h3 h4 =>
   refine .fn g _ _ fv cv (by simpa using h1) (by simpa using h2) (fun j x u hx hu=>?_) (fun j x u hx hu=>?_)
   · rw[zAd] at hx
     cases hj:first[j]? with
     | none=>rw[hj] at hx;simp at hx
     | some z=>rw[hj] at hx;simp at hx;subst hx;exact(h3 j z u hj hu).give1 hm
   · rw[zAd] at hx
     cases hj:cap[j]? with
     | none=>rw[hj] at hx;simp at hx
     | some z=>rw[hj] at hx;simp at hx;subst hx;exact(h4 j z u hj hu).give1 hm
 | _=>exact h.give1 hm
theorem zsx (y md ms:Nat) {cs:List PV} {q:Blk} (hb:look hp y=some (.box cs)) (hq0:q.lift (md+1)=.box cs) (hg:up md ms=some .gone) (hvol:R.vol (md,ms)) (hq:z3r (md+1,ms) hp=true) (hup:z8l up (md,ms))
 (h:Run P f R k ⟨n,zg9 y (md+1,ms) tm,(y,.gone)::hp,upd up (md,ms) q⟩):Run P f R k ⟨n,tm,hp,up⟩:=by
 refine Run.stepV (s:=⟨n,tm,hp,up⟩) (s':=⟨n,zg9 y (md+1,ms) tm,(y,.gone)::hp,upd up (md,ms) q⟩) (fun β own a w hr b' fs=>?_) h
 let β':Nm→Value:=fun m=>if m=(md+1,ms) then β (0,y) else β m
 have hne:∀ m,m≠(md+1,ms)→β' m=β m:=fun m hm=>by simp[β',hm]
 have hsame:β' (md+1,ms)=β' (0,y):=by simp[β']
 have hy:β' (0,y)=β (0,y):=hne _ (by simp)
 have hold:∀ m c,z13 (push hp up) m=some c→c.says (md+1,ms)=false:=fun m c hc=>zbf (zd2 (m:=(md,ms)) hq hup) hc
 have hgone:z13 (push hp up) (md+1,ms)=some .gone:=by simp[z13,push,hg,Blk.lift]
 have h1:HR (push hp up) β' own w:=by
  exact zD13
 refine⟨β',own,a,w,⟨hr.size,hr.defers,fun t p hp'=>?_,?_⟩,Ext.refl _ _,fun m hm=>?_,.refl _ _⟩
 · simp only at hp'
   rw[zbj] at hp'
   cases hq':look tm t with
   | none=>rw[hq'] at hp';cases hp'
   | some q1 =>
    rw[hq'] at hp';simp at hp';subst hp'
    split
    · exact .any _
    · rename_i hs
      exact((hr.tm t q1 hq').reβ (md+1,ms) hne (by simpa using hs)).giveF hsame
 · have hrow:z13 (push hp up) (0,y)=some (.box cs):=hb
   have key:∀ m c,z13 (push ((y,.gone)::hp) (upd up (md,ms) q)) m=some c→c.live=true→(m=(md+1,ms)∧c=.box cs)∨(m≠(md+1,ms)∧m≠(0,y)∧z13 (push hp up) m=some c):=by
    intro m c hm hc
    rw[z2f] at hm
    by_cases e1:m=(0,y)
    · rw[zAy e1] at hm;simp at hm;subst hm;cases hc
    · rw[zAx e1,z5n,z3a] at hm
      by_cases e2:m=(md+1,ms)
      · rw[zAy e2] at hm;simp[atF] at hm;rw[hq0] at hm;exact .inl ⟨e2,hm.symm⟩
      · rw[zAx e2] at hm;exact .inr ⟨e2,e1,hm⟩
   refine⟨fun m c hm=>?_,fun m1 m2 c1 c2 e1 e2 l1 l2 hn g hg'=>?_,h1.lt⟩
   · cases hc:c.live with
     | false=>cases c <;> first|(simp[Blk.live] at hc;done)|exact .gone _
     | true =>
      rcases key m c hm hc with ⟨rfl,rfl⟩|⟨_,_,h3⟩
      · rw[hsame];exact h1.blk _ _ hrow
      · exact h1.blk m c h3
   · rcases key m1 c1 e1 l1 with ⟨rfl,rfl⟩|⟨n1,n1',h3⟩
     · rcases key m2 c2 e2 l2 with ⟨rfl,rfl⟩|⟨n2,n2',h4⟩
       · exact absurd rfl hn
       · rw[hsame] at hg'
         exact h1.inj (0,y) m2 _ c2 hrow h4 l1 l2 (Ne.symm n2') g hg'
     · rcases key m2 c2 e2 l2 with ⟨rfl,rfl⟩|⟨n2,n2',h4⟩
       · rw[hsame]
         exact h1.inj m1 (0,y) c1 _ h3 hrow l1 l2 n1' g hg'
       · exact h1.inj m1 m2 c1 c2 h3 h4 l1 l2 hn g hg'
 · refine hne _ fun e=>hm ?_
   have e1:m.1+1=md+1:=(Prod.mk.inj e).1
   have e2:m.2=ms:=(Prod.mk.inj e).2
   have:m=(md,ms):=Prod.ext (by omega) e2
   subst this
   exact hvol
theorem zvu {fn:Func} {s:St} {t:Nat} (q:PV) (h:fn.results=#[.tmp t]) (ht:look s.tm t=some (q.lift 1)):Res P fn s (.v q):=fun β own a w hrep =>
 ⟨a.tmps.getD t undef,own,by simp[results,h],Ext.refl _ _,hrep.heap.outer,.v _ _ ((hrep.tm t _ ht).low q rfl)⟩
theorem zef (y:Nat) (h:Run P f R k ⟨n,tm,(y,.gone)::hp,up⟩):Run P f R k ⟨n,tm,hp,up⟩:=by
 refine Run.le (s:=⟨n,tm,(y,.gone)::hp,up⟩) (fun β own ac w hr=>⟨β,rfl,hr.size,hr.defers,hr.tm,?_⟩) h
 have:=hr.heap.drop (0,y)
 refine⟨fun m c hm=>?_,fun m1 m2 c1 c2 h1 h2 l1 l2 hn'=>?_,this.lt⟩
 · rw[z2f] at hm
   by_cases e:m=(0,y)
   · rw[zAy e] at hm;simp at hm;subst hm;exact .gone _
   · rw[zAx e] at hm;exact hr.heap.blk m c hm
 · have key:∀ m c,z13 (push ((y,.gone)::hp) up) m=some c→c.live=true→z13 (push hp up) m=some c:=by
    intro m c hm hc
    rw[z2f] at hm
    by_cases e:m=(0,y)
    · rw[zAy e] at hm;simp at hm;subst hm;cases hc
    · rw[zAx e] at hm;exact hm
   exact hr.heap.inj m1 m2 c1 c2 (key m1 c1 h1 l1) (key m2 c2 h2 l2) l1 l2 hn'
theorem za7 {m:Nm}:∀ {tm:List (Nat × PV)} {t:Nat} {q:PV},z4q m tm=false→look tm t=some q→q.says m=false
 | [],t,q,_,h=>by simp[look] at h
 | (k,p)::r,t,q,hs,h=>by
  simp only[z4q,Bool.or_eq_false_iff] at hs
  simp only[look] at h
  split at h
  · simp at h;subst h;exact hs.1
  · exact za7 hs.2 h
theorem zgr {g:FuncId} {args:List Operand} {ps:List PV} {ats:Array TypeId} {a b:Nat} {hp':Hp} {up':Hf} (hsp:z9t P g ps (push hp up) ⟨fun r H'=>r=.v p∧H'=push hp' up',fun x=>x=(0,a)∨x=(0,b),none⟩) (hev:St.evs ⟨n,tm,hp,up⟩ args=some ps)
 (hqa:z4q (0,a) tm=false) (hqb:z4q (0,b) tm=false) (hd:d<n) (h:Ops P f R all l k ⟨n,(d,p)::tm,hp',up'⟩) :
 Op1 P f R all ⟨some d,.call ⟨.value (.func g),args.toArray,ats⟩,ty,pos,aft,gd⟩ l k ⟨n,tm,hp,up⟩:=by
 refine zhy (g:=g) fun β own ac w hr=>?_
 obtain⟨vals,hrun,hargs⟩:=z8a (first:=[]) (cap:=[]) hr (fo:=.func g) rfl hev hsp.plain (dst:=some d) (ats:=ats) (ty:=ty) (pos:=pos) (aft:=aft) (gd:=gd)
 refine⟨vals.toArray,w,own,hrun,Ext.refl _ _,(hsp.run β own w vals hr.heap (by simpa using hargs)).mono fun e w' hfin=>?_⟩
 obtain⟨v,r,H,own',β',he,⟨hr1,hH⟩,hrv,hheap,hext,hβ⟩:=hfin
 subst hr1
 cases hrv with
 | v _ _ hpv =>
  refine⟨v,β',own',_,he,?_,hext,fun x hx=>hβ _ (fun e=>?_),h⟩
  · have hr':Rep ⟨n,tm,hp',up'⟩ β' own' ac w':=by
     refine⟨hr.size,hr.defers,fun t q hq'=>?_,by rw[← hH];exact hheap⟩
     simp only at hq'
     let β1:Nm→Value:=fun x=>if x=(0,a) then β' (0,a) else β x
     have h1:=((hr.tm t q hq').mono hext).reβ (β':=β1) (0,a) (fun m hm=>by simp[β1,hm]) (za7 hqa hq')
     refine h1.reβ (β':=β') (0,b) (fun m hm=>?_) (za7 hqb hq')
     by_cases e:m=(0,a)
     · subst e;simp[β1]
     · simp only[β1,e,if_false]
       exact hβ m fun hv=>hv.elim e hm
    exact hr'.put (dst:=some d) (p:=p) (v:=v) (by simp[St.fits,hd]) hpv
  · rcases e with e|e <;> simp at e
end Go.Ab
namespace Go.Ab
variable {P:Program} {f:FuncId} {R:z3x} {k:List Item} {all:Array Oper} {o:Oper} {l:List Oper}
variable {n:Nat} {tm:List (Nat × PV)} {hp:Hp} {up:Hf} {d:Nat} {ty:TypeId} {pos:String} {aft:Array Edge} {gd:Option (Nat × Bool)} {op:Op} {p:PV}
theorem zr2 {g:FuncId} {fo:Operand} {args:List Operand} (first cap ps:List PV) {ats:Array TypeId} (hsp:Spec P g (first++ps++cap) (push hp up) (fun r H'=>r=.v p∧H'=push hp up)) (hfo:St.ev ⟨n,tm,hp,up⟩ fo=some (.fn (.func g) first cap)) (hev:St.evs ⟨n,tm,hp,up⟩ args=some ps)
 (hd:d<n) (h:Ops P f R all l k ⟨n,(d,p)::tm,hp,up⟩) :
 Op1 P f R all ⟨some d,.call ⟨.value fo,args.toArray,ats⟩,ty,pos,aft,gd⟩ l k ⟨n,tm,hp,up⟩:=by
 refine zhy (g:=g) fun β own ac w hr=>?_
 obtain⟨vals,hrun,hargs⟩:=z8a hr hfo hev hsp.plain (dst:=some d) (ats:=ats) (ty:=ty) (pos:=pos) (aft:=aft) (gd:=gd)
 refine⟨vals.toArray,w,own,hrun,Ext.refl _ _,(hsp.run β own w vals hr.heap hargs).mono fun e w' hfin=>?_⟩
 obtain⟨v,r,H,own',he,⟨hr1,hH⟩,hrv,hheap,hext⟩:=hfin
 subst hr1
 cases hrv with
 | v _ _ hpv =>
  refine⟨v,β,own',_,he,?_,hext,fun x hx=>rfl,h⟩
  have hr':Rep ⟨n,tm,hp,up⟩ β own' ac w':=⟨hr.size,hr.defers,fun t q hq'=>(hr.tm t q hq').mono hext,by rw[← hH];exact hheap⟩
  exact hr'.put (dst:=some d) (p:=p) (v:=v) (by simp[St.fits,hd]) hpv
theorem zb5 {H:Hf} {a b:Nm} {p q:Blk} (h:a≠b):upd (upd H a p) b q=upd (upd H b q) a p:=by
 funext d s
 simp only[upd]
 by_cases h1:d=b.1∧s=b.2
 · rw[zAy h1,zAy h1,zAx (fun h2=>h (Prod.ext (h2.1.symm.trans h1.1) (h2.2.symm.trans h1.2)))]
 · rw[zAx h1,zAx h1]
end Go.Ab
namespace Go.Ab
variable {P:Program} {ty tx ty':TypeId} {x y z:Operand}
theorem z15.ptr {t:TypeId} {ti:TI} (h:z15 P t ti) {e:TypeId} (hk:ti.kind=.ptr e):P.underlying t=some (.pointer (P.pointee t)):=by
 have h0:P.underlying t=some (.pointer e):=by
  exact zD28
 have:P.pointee t=e:=by simp[Program.pointee,h0]
 rw[this];exact h0
end Go.Ab
namespace Go.Ab
variable {P:Program} {f:FuncId} {R:z3x} {k:List Item} {all:Array Oper} {o:Oper} {l:List Oper}
variable {n:Nat} {tm:List (Nat × PV)} {hp:Hp} {up:Hf} {d:Nat}
section
variable {ty:TypeId} {pos:String} {aft:Array Edge} {gd:Option (Nat × Bool)} {p:PV} {g:FuncId} {args:List Operand} {ps:List PV} {ats:Array TypeId} {bs:List (Nm × Blk)}
theorem z8j (hsp:z1r P g ps bs [] p) (hev:St.evs ⟨n,tm,hp,up⟩ args=some ps) (hbs:BkE ⟨n,tm,hp,up⟩ bs) (hd:d<n) (h:Ops P f R all l k ⟨n,(d,p)::tm,hp,up⟩) :
 Op1 P f R all ⟨some d,.call ⟨.value (.func g),args.toArray,ats⟩,ty,pos,aft,gd⟩ l k ⟨n,tm,hp,up⟩:=zh9 hsp hev hbs hd rfl h
theorem zgc {id:Nat} {ops:List Oper} {s0:St} {done:List Eff} {gr:List (Nat × PV)} (hsp:z1r P g ps bs [] p) (hg:GOK ops.toArray gd gr ⟨n,tm,hp,up⟩)
 (hev:St.evs ⟨n,tm,hp,up⟩ args=some ps) (hbs:BkE ⟨n,tm,hp,up⟩ bs) (hd:d<n)
 (h:Tr P f R id ops k s0 (done++[⟨gr++rd (args.zip ps),bs,[],[(d,p)],[]⟩]) ⟨n,(d,p)::tm,hp,up⟩ l) :
 Tr P f R id ops k s0 done ⟨n,tm,hp,up⟩ (⟨some d,.call ⟨.value (.func g),args.toArray,ats⟩,ty,pos,aft,gd⟩::l):=zin hsp hg hev hbs hd rfl h
end
end Go.Ab
namespace Go.Ab
variable {P:Program} {f:FuncId} {R:z3x} {k:List Item} {all:Array Oper} {o:Oper} {l:List Oper}
variable {n:Nat} {tm:List (Nat × PV)} {hp:Hp} {up:Hf} {d:Nat} {ty:TypeId} {pos:String} {aft:Array Edge} {gd:Option (Nat × Bool)} {op:Op} {p:PV}
theorem zki {s:St} {t e:TypeId} {ti te:TI} (ht:z15 P t ti) (he:z15 P e te) (hk:ti.kind=.slice e) {x y:Operand} {k1 k2:IntKind} {a c:Int} (hx:s.ev x=some (I k1 a)) (hy:s.ev y=some (I k2 c)) (h0:0≤a) (hac:a≤c) (ha:c≤137438953472) (hb:te.bytes≤1024) (hz:te.zero.all (·.oneCell')=true)
 (hz1:te.zero.length=te.size) (hz2:te.size≠0) (hf:(z1d d s.hp&&z1h d s.tm)=true) (hd:d<s.n) :
 z1x P ⟨some d,.makeSlice t x y,ty,pos,aft,gd⟩ s (s.app ⟨[],[],[],[(d,.ref (0,d))],[((0,d),.row e te.size (List.replicate a.toNat (te.zero.map zct)))]⟩):=by
 obtain⟨n,tm,hp,up⟩:=s
 intro β own ac w hr
 obtain⟨i,u,z,hi,hu,hiz,his,hib,hku,hzc,_⟩:=he.get
 have hsm:=z5d (b:=te.bytes) (c:=c.toNat) hb (by omega)
 have hby:(i.bytes:Int)*c≤281474976710656:=by
  have h1:(te.bytes:Int)*c=((c.toNat*te.bytes:Nat):Int):=by rw[Int.natCast_mul,Int.toNat_of_nonneg (by omega),Int.mul_comm]
  rw[hib,h1];omega
 have hrun:=run_make (P:=P) w t e i z (ht.slice hk) hi hiz k1 k2 a c h0 hac hby (by omega)
 have hE:=Ext.alloc w own (.cells (madeCells z.cells (c.toNat*i.size)) e)
 have hzsz:z.cells.size=te.size:=by rw[← hz1,← hzc];simp
 have hget:∀ i' j,i'<c.toNat→j<te.size→(madeCells z.cells (c.toNat*i.size)).toList[i'*te.size+j]? =te.zero[j]?:=by
  intro i' j hi' hj
  have hlt:i'*te.size+j<c.toNat*te.size:=by
   have:(i'+1)*te.size≤c.toNat*te.size:=Nat.mul_le_mul_right _ hi'
   rw[Nat.add_mul] at this;omega
  exact zD26
 have hlen:(madeCells z.cells (c.toNat*i.size)).toList.length=c.toNat*te.size:=by simp[size_madeCells,his]
 have hle:a.toNat≤c.toNat:=by omega
 have hmul:a.toNat*te.size≤c.toNat*te.size:=Nat.mul_le_mul_right _ hle
 have hlent:((madeCells z.cells (c.toNat*i.size)).toList.take (a.toNat*te.size)).length=a.toNat*te.size:=by rw[zAm,hlen];omega
 have hgett:∀ i' j,i'<a.toNat→j<te.size→((madeCells z.cells (c.toNat*i.size)).toList.take (a.toNat*te.size))[i'*te.size+j]? =te.zero[j]?:=by
  intro i' j hi' hj
  have hlt:i'*te.size+j<a.toNat*te.size:=by
   have:(i'+1)*te.size≤a.toNat*te.size:=Nat.mul_le_mul_right _ hi'
   rw[Nat.add_mul] at this;omega
  rw[List.getElem?_take,zAy hlt]
  exact hget i' j (by omega) hj
 have hrow:z8e (w.alloc (.cells (madeCells z.cells (c.toNat*i.size)) e)) (fun g=>own g∨g=w.heap.size) te.size (List.replicate a.toNat (te.zero.map zct)) ((madeCells z.cells (c.toNat*i.size)).toList.take (a.toNat*te.size)):=by
  refine⟨fun x hx=>?_,by rw[zAq];exact hlent,fun v hv=>?_,fun i' x hx' j y hy'=>?_⟩
  · rw[List.mem_replicate] at hx;rw[hx.2];simp[hz1]
  · obtain⟨j,hj⟩:=zAv hv
    have hjl:=(zA1.1 hj).1
    rw[hlent] at hjl
    have h2:=hgett (j / te.size) (j % te.size) ((Nat.div_lt_iff_lt_mul (by omega)).2 hjl) (Nat.mod_lt _ (by omega))
    exact zD73
  · have hi'':=(zA1.1 hx').1
    rw[zAq] at hi''
    rw[List.getElem?_replicate,zAy hi''] at hx'
    simp at hx';subst hx'
    rw[zAd] at hy'
    cases hq:te.zero[j]? with
    | none=>rw[hq] at hy';cases hy'
    | some u =>
     rw[hq] at hy';simp at hy';subst hy'
     refine⟨u,by rw[hgett i' j hi'' (by have:=(zA1.1 hq).1;omega)];exact hq,?_⟩
     rw[List.all_eq_true] at hz
     exact .zct (hz u (zA2 hq))
 have hin:=hr.install (d:=d) hf hE (fun g hg=>by rcases hg with hg|rfl;exact zAw (hr.heap.lt g hg) (by simp);simp) (v:=.slice (some ⟨w.heap.size,0,none⟩) a.toNat c.toNat) (b:=.row e te.size (List.replicate a.toNat (te.zero.map zct)))
  (z6l hr.heap _ _ _ rfl)
  (.row _ e te.size _ _ (fun g hg=>by simp[Value.ownBlock] at hg;exact .inr hg.symm) (by omega)
    ⟨by rw[zAq];exact hlent,.inr ⟨w.heap.size,c.toNat,_,by rw[zAq],zAf _,z5s w _,by rw[zAq];exact hle,by unfold maxLen;omega,hlen,by rw[zAq]⟩⟩ hrow)
 refine⟨_,.slice (some ⟨w.heap.size,0,none⟩) a.toNat c.toNat,_,z5g β d (.slice (some ⟨w.heap.size,0,none⟩) a.toNat c.toNat),_,?_,.inl rfl,?_,hE,z2w _ _ _⟩
 · simp only[execOp,(hr.ev hx).lit,(hr.ev hy).lit]
   simp[hrun]
 · have hp':=PR.ref (β:=z5g β d (.slice (some ⟨w.heap.size,0,none⟩) a.toNat c.toNat)) (w:=w.alloc (.cells (madeCells z.cells (c.toNat*i.size)) e)) (own:=fun g=>own g∨g=w.heap.size) (0,d)
   rw[z1w] at hp'
   exact hin.put (dst:=some d) (p:=.ref (0,d)) (by simpa[St.fits] using hd) hp'
section
variable {t e:TypeId} {ti te:TI} {x y:Operand} {k1 k2:IntKind} {a c:Int} {xs:List (List D)}
theorem zsu [ht:z15 P t ti] [he:z15 P e te] (hk:ti.kind=.slice e) (hev:St.evs ⟨n,tm,hp,up⟩ [x,y]=some [I k1 a,I k2 c]) (h0:0≤a) (hac:a≤c) (ha:c≤137438953472) (hb:decide (te.bytes≤1024)=true) (hz:z8u te 0=true) (hfr:(z1d d hp&&z1h d tm)=true) (hd:d<n)
 (hxs:List.replicate a.toNat (te.zero.map zct)=xs) (h:Ops P f R all l k ⟨n,(d,.ref (0,d))::tm,(d,.row e te.size xs)::hp,up⟩):Op1 P f R all ⟨some d,.makeSlice t x y,ty,pos,aft,gd⟩ l k ⟨n,tm,hp,up⟩:=by
 obtain⟨h1,h2,_⟩:=evE (xs:=[(x,I k1 a),(y,I k2 c)]) hev
 simp only[z8u,zA7,beq_iff_eq,bne_iff_ne] at hz
 subst hxs
 exact z0b (zki (P:=P) (d:=d) ht he hk (s:=⟨n,tm,hp,up⟩) h1 h2 h0 hac ha (by simpa using hb) hz.1.1.1 hz.1.1.2 hz.1.2 hfr hd) h
end
end Go.Ab
namespace Go.Ab
theorem z4t (H:Hf) (m:Nm) (b:Blk):upd H m b m.1 m.2=some b:=by simp[upd]
theorem z50 (H:Hf) (m:Nm) (b c:Blk):upd (upd H m b) m c=upd H m c:=by
 funext d s;simp only[upd];split <;> rfl
theorem z9l (H:Hf) (m q:Nm) (b:Blk) (h:q≠m):upd H m b q.1 q.2=H q.1 q.2:=by
 simp only[upd]
 rw[zAx]
 rintro⟨h1,h2⟩
 exact h (Prod.ext h1 h2)
end Go.Ab
namespace Go.Ab
open Go.RowKit
variable {P:Program} {f:FuncId} {R:z3x} {k:List Item} {all:Array Oper} {o:Oper} {l:List Oper}
variable {n:Nat} {tm:List (Nat × PV)} {hp:Hp} {up:Hf} {d:Nat} {ty:TypeId} {pos:String} {aft:Array Edge} {gd:Option (Nat × Bool)} {op:Op} {p:PV}
theorem Ext.of_below {w w':World} {own:Nat→Prop} (h:Below w.heap.size w w'):Ext w own w' own:=⟨h.os,h.tape,h.output,h.size,fun b hb _=>h.block b hb,fun _ _ h=>h⟩
theorem HR.of_below {H:Hf} {β:Nm→Value} {own:Nat→Prop} {w w':World} (h:HR H β own w) (hb:Below w.heap.size w w'):HR H β own w':=by
 refine⟨fun q b hq=>?_,h.inj,fun g hg=>zAw (h.lt g hg) hb.size⟩
 have hk:=h.blk q b hq
 cases hl:b.live with
 | false=>cases b <;> first|(simp[Blk.live] at hl;done)|exact .gone _
 | true=>exact hk.kept (Ext.of_below hb) fun lb g hg=>⟨hb.block g (h.lt g (hk.block_lt lb hg)),hk.block_lt lb hg⟩
theorem zfr {g:FuncId} {ps:List PV} {bs:List (Nm × Blk)} {p:PV} (hp:Plain P g)
 (h:∀ (H:Hf),(∀ q∈bs,H q.1.1 q.1.2=some q.2)→∀ β own w vals,HR H β own w→z7b β w own ps vals→∃ v,Calls P g vals.toArray w (fun e w'=>e=.returned v∧Below w.heap.size w w')∧∀ w' own',PR β w' own' p v):z1r P g ps bs [] p :=
 zkd hp fun H hH β own w vals hHR hA=>by
  obtain⟨v,hc,hv⟩:=h H hH β own w vals hHR hA
  refine hc.mono ?_
  rintro e w' ⟨rfl,hb⟩
  exact⟨v,_,H,own,rfl,⟨rfl,rfl⟩,.v _ _ (hv w' own),hHR.of_below hb,Ext.of_below hb⟩
theorem z29 {m:Nm} {b:Blk} {bs:List (Nm × Blk)} {s:St} (h:z4l s m=some b) (h':BkE s bs):BkE s ((m,b)::bs):=by
 simp only[BkE,List.map_cons,List.cons.injEq] at *
 exact⟨h,h'⟩
theorem zfy {s:St}:BkE s []:=rfl
section
variable {g:FuncId} {args:List Operand} {ps:List PV} {ats:Array TypeId} {md ms:Nat} {b b':Blk} {bs:List (Nm × Blk)}
theorem z8z (hsp:z1r P g ps (((md+1,ms),b)::bs) [((md+1,ms),b')] p) (hev:St.evs ⟨n,tm,hp,up⟩ args=some ps) (hb:up md ms=some b) (hbs:BkE ⟨n,tm,hp,up⟩ bs) (hd:d<n)
 (h:Ops P f R all l k ⟨n,(d,p)::tm,hp,upd up (md,ms) b'⟩):Op1 P f R all ⟨some d,.call ⟨.value (.func g),args.toArray,ats⟩,ty,pos,aft,gd⟩ l k ⟨n,tm,hp,up⟩ :=
 zh9 hsp hev (z29 (m:=(md+1,ms)) hb hbs) hd rfl h
end
end Go.Ab
namespace Go.Ab
variable {P:Program}
theorem z9q {src dst:TypeId} {ty:TypeId} {x:Operand} {k:IntKind} {b:Int} {t1 t2:TI} [h1:z15 P src t1] [h2:z15 P dst t2] (hk:t2.kind=.str) (hk1:t1.kind=.int k) :
 Val P (.convert src dst x) ty [(x,I k b)] [] (S (Utf8.encode b)):=fun d pos aft gd n tm hp up hd hx hb =>
 z16 rfl hd fun β own a w hrp=>⟨.string (Utf8.encode b),by
  simp only[execOp,(hrp.ev hx.1).lit]
  simp[convert,run_underlying (h1.int hk1),run_underlying (h2.str hk),Conv.intToString],.S _⟩
end Go.Ab
namespace Go.Ab
variable {P:Program} {f:FuncId} {R:z3x} {k:List Item} {all:Array Oper} {l:List Oper}
variable {n:Nat} {tm:List (Nat × PV)} {hp:Hp} {up:Hf}
def Wk:List PV→List PV→Prop
 | [],[]=>True
 | p::ps,q::qs=>(q=p∨q=.any)∧Wk ps qs
 | _,_=>False
theorem Wk.len:∀ {ps qs:List PV},Wk ps qs→qs.length=ps.length
 | [],[],_=>rfl
 | p::ps,q::qs,h=>by simp[Wk.len h.2]
 | [],_::_,h=>h.elim
 | _::_,[],h=>h.elim
theorem Wk.get {β:Nm→Value} {w:World} {own:Nat→Prop} {d:Nat}:∀ {ps qs:List PV},Wk ps qs→∀ (cur:List Value),(∀ (j:Nat) (x:PV) (v:Value),(PV.liftL d ps)[j]? =some x→cur[j]? =some v→PR β w own x v)→∀ (j:Nat) (x:PV) (v:Value),(PV.liftL d qs)[j]? =some x→cur[j]? =some v→PR β w own x v
 | [],[],_,cur,h,j,x,v,hx,hv=>by simp[PV.liftL] at hx
 | p::ps,q::qs,hw,cur,h,0,x,v,hx,hv=>by
  simp only[PV.liftL,List.getElem?_cons_zero,zAh] at hx
  subst hx
  rcases hw.1 with rfl|rfl
  · exact h 0 _ v (by simp[PV.liftL]) hv
  · exact .any v
 | p::ps,q::qs,hw,cur,h,j+1,x,v,hx,hv=>by
  simp only[PV.liftL,List.getElem?_cons_succ] at hx
  cases cur with
  | nil=>simp at hv
  | cons c cur=>exact Wk.get hw.2 cur (fun j x v hx hv=>h (j+1) x v (by simpa[PV.liftL] using hx) (by simpa using hv)) j x v hx (by simpa using hv)
 | [],_::_,h,_,_,_,_,_,_,_=>h.elim
 | _::_,[],h,_,_,_,_,_,_,_=>h.elim
end Go.Ab
namespace Go.Ab
variable {P:Program} {f:FuncId} {R:z3x} {k:List Item} {all:Array Oper} {l:List Oper}
variable {n:Nat} {tm:List (Nat × PV)} {hp:Hp} {up:Hf} {d:Nat} {ty:TypeId} {pos:String} {aft:Array Edge} {gd:Option (Nat × Bool)} {p:PV}
theorem z6z {t:TypeId} {ti:TI} [ht:z15 P t ti] {x:Operand} {md ms off:Nat} {b:Blk} {cs:List PV} (hev:EvE ⟨n,tm,hp,up⟩ [(x,.ptr (md+1,ms) off)]) (hb:up md ms=some b) (hc:atF (md+1,ms) b=.box cs) (hy:cs[off]? =some p) (hs:ti.size=1) (ha:ti.agg=false) (hd:d<n)
 (h:Ops P f R all l k ⟨n,(d,p)::tm,hp,up⟩):Op1 P f R all ⟨some d,.load t x,ty,pos,aft,gd⟩ l k ⟨n,tm,hp,up⟩ :=
 zkh (zqi (m:=(md+1,ms)) (b:=b) hc hy hs ha) hev (bkN hb) hd h
end Go.Ab
namespace Go.Ab
variable {P:Program}
theorem z9s {s:St} {β:Nm→Value} {own:Nat→Prop} {a:Act} {w:World} (hrep:Rep s β own a w) {t ms:Nat} {ty:TypeId} {ti:TI} [hty:z15 P ty ti] {x:D} (ht:look s.tm t=some (.ptr (0,ms) 0)) (hb:look s.hp ms=some (.box [.d x])) (hs:ti.size=1) (ha:ti.agg=false) :
 ∃ g v,a.tmps[t]?.getD undef=.pointer (some ⟨g,0,none⟩)∧(loadVar ty ⟨g,0,none⟩).run P w=.ok v w∧PR β w own (.d x) v:=by
 have hp:=hrep.tm t _ ht
 obtain⟨g,tt,cur,hβ,ho,hg,hl0,h1,hd0⟩:=hrep.box (m:=(0,ms)) hb
 obtain⟨c,rfl⟩:∃ c,cur=[c]:=by
  cases cur with
  | nil=>simp at hl0
  | cons c r=>cases r with
   | nil=>exact⟨c,rfl⟩
   | cons _ _=>simp at hl0
 refine⟨g,c,?_,?_,hd0 0 _ c rfl rfl⟩
 · rw[← Array.getD_eq_getD_getElem?]
   generalize a.tmps.getD t undef=v at hp
   cases hp with
   | ptr _ _ g' hg'=>rw[hβ] at hg';simp at hg';subst hg';rfl
 · have:=z1z (P:=P) hty g 0 [c] w (by simp[hs]) (fun j v hj=>by
    rw[Nat.zero_add,cell_of_row w g j _ tt (0,0) hg];simpa using hj)
   rcases this with h'|h'
   · simpa[ha] using h'
   · exact absurd hs h'.2
theorem zfc {fn:Func} {s:St} {t1 t2 t3 t4 m1 m2 m3 m4:Nat} {y1 y2 y3 y4:TypeId} {i1 i2 i3 i4:TI} {x1 x2 x3 x4:D} [h1:z15 P y1 i1] [h2:z15 P y2 i2] [h3:z15 P y3 i3] [h4:z15 P y4 i4] (h:fn.results=#[.cell t1 y1,.cell t2 y2,.cell t3 y3,.cell t4 y4])
 (a1:look s.tm t1=some (.ptr (0,m1) 0)) (a2:look s.tm t2=some (.ptr (0,m2) 0)) (a3:look s.tm t3=some (.ptr (0,m3) 0)) (a4:look s.tm t4=some (.ptr (0,m4) 0)) (b1:look s.hp m1=some (.box [.d x1])) (b2:look s.hp m2=some (.box [.d x2])) (b3:look s.hp m3=some (.box [.d x3])) (b4:look s.hp m4=some (.box [.d x4]))
 (s1:i1.size=1) (s2:i2.size=1) (s3:i3.size=1) (s4:i4.size=1) (g1:i1.agg=false) (g2:i2.agg=false) (g3:i3.agg=false) (g4:i4.agg=false) :
 Res P fn s (.v (.tup [.d x1,.d x2,.d x3,.d x4])):=fun β own a w hrep=>by
 obtain⟨p1,v1,e1,l1,r1⟩:=z9s (P:=P) hrep (ty:=y1) a1 b1 s1 g1
 obtain⟨p2,v2,e2,l2,r2⟩:=z9s (P:=P) hrep (ty:=y2) a2 b2 s2 g2
 obtain⟨p3,v3,e3,l3,r3⟩:=z9s (P:=P) hrep (ty:=y3) a3 b3 s3 g3
 obtain⟨p4,v4,e4,l4,r4⟩:=z9s (P:=P) hrep (ty:=y4) a4 b4 s4 g4
 refine⟨.tuple #[v1,v2,v3,v4],own,?_,Ext.refl _ _,hrep.heap.outer,?_⟩
 · simp[results,h,e1,e2,e3,e4,asAddr,l1,l2,l3,l4]
 · refine .v _ _ (.tup [.d x1,.d x2,.d x3,.d x4] [v1,v2,v3,v4] rfl fun j p v hp hv=>?_)
   match j with
   | 0=>simp only[List.getElem?_cons_zero,zAh] at hp hv;subst hp hv;exact r1.low (.d x1) rfl
   | 1=>simp only[List.getElem?_cons_succ,List.getElem?_cons_zero,zAh] at hp hv;subst hp hv;exact r2.low (.d x2) rfl
   | 2=>simp only[List.getElem?_cons_succ,List.getElem?_cons_zero,zAh] at hp hv;subst hp hv;exact r3.low (.d x3) rfl
   | 3=>simp only[List.getElem?_cons_succ,List.getElem?_cons_zero,zAh] at hp hv;subst hp hv;exact r4.low (.d x4) rfl
   | j+4=>simp at hp
theorem zf8 {fn:Func} {s:St} {t m:Nat} {y:TypeId} {i:TI} {x:D} [h1:z15 P y i] (h:fn.results=#[.cell t y]) (a1:look s.tm t=some (.ptr (0,m) 0)) (b1:look s.hp m=some (.box [.d x])) (s1:i.size=1) (g1:i.agg=false):Res P fn s (.v (.d x)):=fun β own a w hrep=>by
 obtain⟨p1,v1,e1,l1,r1⟩:=z9s (P:=P) hrep (ty:=y) a1 b1 s1 g1
 refine⟨v1,own,?_,Ext.refl _ _,hrep.heap.outer,.v _ _ (r1.low (.d x) rfl)⟩
 simp[results,h,e1,asAddr,l1]
end Go.Ab
namespace Go.Ab
variable {P:Program}
theorem zfi {fn:Func} {s:St} {t u q ms:Nat} {ty:TypeId} {ti:TI} {x y:D} [hty:z15 P ty ti] {cs:List PV} {ds:List D} (h:fn.results=#[.cell t ty,.tmp u,.tmp q]) (ht:look s.tm t=some (.ptr (0,ms) 0)) (hu:look s.tm u=some (.d x)) (hq:look s.tm q=some (.d y)) (hb:look s.hp ms=some (.box cs)) (hds:z71 cs=some ds) (hs:ds.length=ti.size) (ha:ti.agg=true) :
 Res P fn s (.v (.tup [.d (.agg ds),.d x,.d y])):=fun β own a w hrep=>by
 have hp:=hrep.tm t _ ht
 have hpu:=hrep.tm u _ hu
 have hpq:=hrep.tm q _ hq
 obtain⟨g,tt,cur,hβ,ho,hg,hl0,h1,hd0⟩:=hrep.box (m:=(0,ms)) hb
 obtain⟨hl,_,hd⟩:=z56 (own:=own) (w:=w) (β:=β) ⟨hl0,h1,hd0⟩ hds
 refine⟨.tuple #[.agg cur.toArray,a.tmps.getD u undef,a.tmps.getD q undef],own,?_,Ext.refl _ _,hrep.heap.outer,?_⟩
 · exact zD4
 · refine .v _ _ (.tup [.d (.agg ds),.d x,.d y] [.agg cur.toArray,a.tmps.getD u undef,a.tmps.getD q undef] rfl fun j p v hp hv=>?_)
   match j with
   | 0 =>
    simp only[List.getElem?_cons_zero,zAh] at hp hv;subst hp hv
    exact zD55
   | 1=>simp only[List.getElem?_cons_succ,List.getElem?_cons_zero,zAh] at hp hv;subst hp hv;exact hpu.low (.d x) rfl
   | 2=>simp only[List.getElem?_cons_succ,List.getElem?_cons_zero,zAh] at hp hv;subst hp hv;exact hpq.low (.d y) rfl
   | j+3=>simp at hp
end Go.Ab
namespace Go.Ab
theorem zq7:IntKind.u64.bits=64:=rfl
theorem zp4 (a:Nat) (h:a<2 ^ 64):(BitVec.ofInt IntKind.u64.bits (a:Int)).toNat=a:=by
 show (BitVec.ofInt 64 (a:Int)).toNat=a
 rw[BitVec.ofInt_natCast,BitVec.toNat_ofNat]
 exact Nat.mod_eq_of_lt h
theorem zth {a b:Nat} (ha:a<2 ^ 64) (hb:b<2 ^ 64):ztd .u64 a b=((a &&& b:Nat):Int):=by
 rw[ztd,BitVec.toNat_and,zp4 a ha,zp4 b hb]
 have:=Nat.and_le_left (n:=a) (m:=b)
 exact zxj (by omega) (by omega)
theorem zrn {a b:Nat} (ha:a<2 ^ 64) (hb:b<2 ^ 64):orV .u64 a b=((a ||| b:Nat):Int):=by
 rw[orV,BitVec.toNat_or,zp4 a ha,zp4 b hb]
 have:=Nat.or_lt_two_pow ha hb
 exact zxj (by omega) (by omega)
theorem zv3 {i:Nat} (hi:i<64):zwt .u64 1 (i:Nat)=((2 ^ i:Nat):Int):=by
 have hm:min (i:Int).toNat IntKind.u64.bits=i:=by rw[zq7];simp;omega
 have hp:2 ^ i<2 ^ 64:=Nat.pow_lt_pow_right (by decide) hi
 rw[zwt,hm,Int.one_mul]
 have:((2:Int) ^ i)=((2 ^ i:Nat):Int):=by simp
 rw[this]
 generalize 2 ^ i=p at hp
 exact zxj (by omega) (by omega)
theorem zty {S i:Nat} (hS:S<2 ^ 64) (hi:i≤64):ztd .u64 (zuf .u64 S (i:Nat)) 1=if S.testBit i=true then 1 else 0:=by
 have h1:zuf .u64 S (i:Nat)=((S / 2 ^ i:Nat):Int):=by
  rw[ztk (by omega) (by rw[zq7];simp;exact hi),zA9]
  simp
 have h2:S / 2 ^ i<2 ^ 64:=Nat.lt_of_le_of_lt (Nat.div_le_self _ _) hS
 rw[h1,show (1:Int)=((1:Nat):Int) from rfl,zth h2 (by decide),Nat.and_one_is_mod,Nat.testBit_eq_decide_div_mod_eq]
 rcases Nat.mod_two_eq_zero_or_one (S / 2 ^ i) with h|h <;> simp[h]
end Go.Ab
namespace Go.Ab
variable {P:Program} {f:FuncId} {R:z3x} {k:List Item} {all:Array Oper} {o:Oper} {l:List Oper}
variable {n:Nat} {tm:List (Nat × PV)} {hp:Hp} {up:Hf} {d:Nat} {ty:TypeId} {pos:String} {aft:Array Edge} {gd:Option (Nat × Bool)} {op:Op} {p:PV}
theorem Quiet.upd {H:Hf} {y:Nat} {A:Blk} {ms:Nat} (h:Quiet H ms) (hA:A.says (0,ms)=false):Quiet (Ab.upd H (0,y) A) ms:=by
 intro s b hb
 simp only[Ab.upd,true_and] at hb
 by_cases h0:s=y
 · rw[zAy h0] at hb;simp at hb;subst hb;exact hA
 · rw[zAx h0] at hb;exact h s b hb
end Go.Ab
namespace Go.Ab
variable {P:Program} {f:FuncId} {R:z3x} {k:List Item} {all:Array Oper} {l:List Oper}
variable {n:Nat} {tm:List (Nat × PV)} {hp:Hp} {up:Hf} {d:Nat} {ty:TypeId} {pos:String} {aft:Array Edge} {gd:Option (Nat × Bool)} {p:PV}
theorem zer {g:FuncId} {args:List Operand} {ps:List PV} {ats:Array TypeId} {m1 m2:Nat} {b1 b2 b':Blk} (hsp:z1r P g ps [((0,m1),b1),((0,m2),b2)] [((0,m2),b')] p) (hev:St.evs ⟨n,tm,hp,up⟩ args=some ps)
 (h1:look hp m1=some b1) (h2:look hp m2=some b2) (hd:d<n) (h:Ops P f R all l k ⟨n,(d,p)::tm,(m2,b')::hp,up⟩) :
 Op1 P f R all ⟨some d,.call ⟨.value (.func g),args.toArray,ats⟩,ty,pos,aft,gd⟩ l k ⟨n,tm,hp,up⟩ :=
 zh9 hsp hev (by simp[BkE,z4l,push,h1,h2]) hd rfl h
theorem zvj {P:Program} {f:FuncId} {R:z3x} {k:List Item} {n:Nat} {tm:List (Nat × PV)} {hp:Hp} {up:Hf} {m:Nm} {b:Blk} (hb:up m.1 m.2=some b) (h:Run P f R k ⟨n,tm,hp,upd up m b⟩):Run P f R k ⟨n,tm,hp,up⟩:=by
 rwa [zcb hb] at h
end Go.Ab
namespace Go.Ab
variable {P:Program} {f:FuncId} {R:z3x} {k:List Item} {all:Array Oper} {l:List Oper}
variable {n:Nat} {tm:List (Nat × PV)} {hp:Hp} {up:Hf} {d:Nat} {ty:TypeId} {pos:String} {aft:Array Edge} {gd:Option (Nat × Bool)} {p:PV}
end Go.Ab
namespace Go.Ab
theorem z0m.effb {P:Program} {g:FuncId} {ps:List PV} {p:PV} (bs:List (Nm × Blk)) (h:z0m P g ps p):z1r P g ps bs [] p:=fun H _=>h H
end Go.Ab
namespace Go.Ab
variable {P:Program} {f:FuncId} {R:z3x} {k:List Item} {all:Array Oper} {o:Oper} {l:List Oper}
variable {n:Nat} {tm:List (Nat × PV)} {hp:Hp} {up:Hf} {d:Nat} {ty:TypeId} {pos:String} {aft:Array Edge} {gd:Option (Nat × Bool)} {op:Op} {p:PV}
def btI (s:ByteArray):List Int:=s.data.toList.map fun b=>(b.toNat:Int)
abbrev by8 (x:Int):List D:=[.lit (.int .u8 x)]
theorem zet (s:ByteArray):(btI s).length=s.size:=by rw[btI,zA4,zAe];rfl
theorem zge (s:ByteArray):Lib.strCells s=(btI s).map fun x=>Value.int .u8 x:=by rw[Lib.strCells,btI,List.map_map];rfl
theorem zn9 (w:World) (own:Nat→Prop) (s:ByteArray):z8e w own 1 ((btI s).map by8) (Lib.strCells s):=by
 refine⟨fun x hx=>?_,?_,fun v hv=>?_,fun i x hi j y hj=>?_⟩
 · simp only[List.mem_map] at hx;obtain⟨a,_,rfl⟩:=hx;rfl
 · rw[Lib.strCells_length,zA4,zet,Nat.mul_one]
 · simp only[Lib.strCells,List.mem_map] at hv;obtain⟨b,_,rfl⟩:=hv;rfl
 · rw[zAd] at hi
   cases hb:(btI s)[i]? with
   | none=>rw[hb] at hi;cases hi
   | some b =>
    rw[hb] at hi;simp at hi;subst hi
    cases j with
    | zero =>
     simp at hj;subst hj
     refine⟨.int .u8 b,?_,.lit _ rfl⟩
     rw[zge,Nat.mul_one,Nat.add_zero,zAd,hb];rfl
    | succ j=>simp at hj
theorem zcm (w:World) (t u ty e:TypeId) (i:TypeInfo) (ht:P.underlying t=some (.slice e)) (hu:P.underlying u=some .string) (hi:P.info? e=some i) (hz:i.zero=some (.int .u8 0)) (hsize:i.size=1) (hby:i.bytes=1)
 (v:Value) (n:Nat) (xs:List Value) (hown:w.ownsRow 0 e 1 v n xs) (s:ByteArray) (hbytes:n+s.size≤137438953472) :
 ∃ v' w',(Builtin.append_ #[t,u] ty #[v,.string s]).run P w=.ok v' w'∧w'.ownsRow 0 e 1 v' (n+s.size) (xs++Lib.strCells s)∧w.grownBy w' v.ownBlock∧(v'.ownBlock=v.ownBlock∨v'.ownBlock=some w.heap.size):=by
 obtain⟨v',w',hrun,h2,h3,_⟩:=Lib.run_append_own_string (P:=P) w 0 t u ty e i ht hu hi hz hsize hby v n xs hown s (by unfold maxLen;omega) (by omega) (zAf _)
 refine⟨v',w',hrun,h2,h3,?_⟩
 rcases hown.2 with ⟨rfl,rfl⟩|⟨g,cap,cur,rfl,hbg,hg,hnc,hcm,hcs,htake⟩
 · by_cases hs:s.size=0
   · have hx:=h2.2
     rw[hs,Nat.add_zero] at hx
     have hr:=Lib.run_append_own_string (P:=P) w 0 t u ty e i ht hu hi hz hsize hby (.slice none 0 0) 0 xs hown s (by unfold maxLen;omega) (by omega) (zAf _)
     obtain⟨v2,w2,r2,_,_,q2⟩:=hr
     rw[r2] at hrun
     simp only[Result.ok.injEq] at hrun
     left;rw[← hrun.1,q2.2 ⟨rfl,hs⟩]
   · have hr:=run_append_nil_string (P:=P) w t u ty e i (.int .u8 0) ht hu hi hz s (by omega) (by omega) (by rw[hby];omega)
     exact zD45
 · by_cases hroom:n+s.size≤cap
   · have hr:=Lib.run_append_room_string (P:=P) w t u ty e i ht hu hi hsize g n cap cur hg s hroom (by omega)
     rw[hr] at hrun
     simp only[Result.ok.injEq] at hrun
     left;rw[← hrun.1];rfl
   · have holds:∀ j u,xs[j]? =some u→w.cell? ((⟨g,0,none⟩:Addr).add j)=some u:=hown.cells (g:=g) rfl
     have hxl:xs.length=n:=by simpa using hown.1
     have hr:=Lib.run_append_grow_string (P:=P) w t u ty e i (.int .u8 0) ht hu hi hz ⟨g,0,none⟩ n cap xs (by rw[hsize];simpa using hxl) holds s (by omega) (by omega) (by rw[hby];exact growslice_fits (by omega) (by omega))
     exact zD45
theorem zbk {s:St} {t tu e:TypeId} {ti tui te:TI} (ht:z15 P t ti) (hu:z15 P tu tui) (he:z15 P e te) {x y:Operand} {m:Nm} {e':TypeId} {kk:Nat} {xs:List (List D)} {sb:ByteArray} (hx:s.ev x=some (.ref m)) (hy:s.ev y=some (S sb)) (hb:z4l s m=some (.row e' kk xs))
 (hm:m.1=0) (hk:ti.kind=.slice e) (hku:tui.kind=.str) (hee:e'=e) (hkk:kk=1) (hs1:te.size=1) (hb1:te.bytes=1) (hz:(P.info? e).bind (·.zero)=some (Value.int .u8 0)) (hsm:xs.length+sb.size≤137438953472)
 (hf:(z1d d s.hp&&z1h d s.tm)=true) (hd:d<s.n) :
 z1x P ⟨some d,.call ⟨.builtin .append,#[x,y],#[t,tu]⟩,ty,pos,aft,gd⟩ s (s.app ⟨[],[],[],[(d,.ref (0,d))],[(m,.gone),((0,d),.row e kk (xs++(btI sb).map by8))]⟩):=by
 obtain⟨n,tm,hp,up⟩:=s
 obtain⟨md,ms⟩:=m
 simp only at hm hf hd
 subst hm hee hkk
 intro β own a w hr
 have hlook:z13 (push hp up) (0,ms)=some (.row e' 1 xs):=hb
 obtain⟨vs,ho,hk0,hown,hrr⟩:=hr.row hlook
 have hyv:=(hr.ev hy).lit
 have hxv:=hr.ev hx
 generalize hv:a.eval x=v at hxv
 cases hxv with
 | ref _ =>
  obtain⟨i,uu,z,hi,huu,hzi,hs,hb',hkk,hzz,_⟩:=he.get
  have hz0:i.zero=some (.int .u8 0):=by
   rw[hi] at hz;exact hz
  obtain⟨v',w',hrun,hown',hgrow,hwhere⟩:=zcm (P:=P) w t tu ty e' i (ht.slice hk) (hu.str hku) hi hz0 (hs.trans hs1) (hb'.trans hb1) (β (0,ms)) xs.length vs hown sb hsm
  have hus:=zn9 w own sb
  have hblk:=z4v hown'
  have hblk0:=z4v hown
  have hE:Ext w own w' (fun g=>own g∨v'.ownBlock=some g):=by
   exact zD32
  have hr0:Rep ⟨n,tm,(ms,.gone)::hp,up⟩ β own a w:=⟨hr.size,hr.defers,hr.tm,by
   have:=hr.heap.drop (0,ms)
   rwa [← z4a ⟨n,tm,hp,up⟩ (0,ms) .gone] at this⟩
  have hrow:z8e w' (fun g=>own g∨v'.ownBlock=some g) 1 (xs++(btI sb).map by8) (vs++Lib.strCells sb):=(z8e.app hrr hus).mono hE
  have hin:=hr0.install (d:=d) (b:=.row e' 1 (xs++(btI sb).map by8)) (v:=v') (own':=fun g=>own g∨v'.ownBlock=some g) (by simpa[z1d,Blk.says] using hf) hE
   (fun g hg=>by
     rcases hg with hg|hg
     · exact zAw (hr.heap.lt g hg) hgrow.size
     · exact(hown'.lt g hg).2)
   (fun q c hq hl hqd g hg=>by
     rw[z2f] at hq
     by_cases hqm:q=(0,ms)
     · rw[zAy hqm] at hq;simp at hq;subst hq;cases hl
     · rw[zAx hqm] at hq
       have hog:=(hr.heap.blk q c hq).block_lt hl hg
       have hne:(β (0,ms)).ownBlock≠some g:=fun e=>hr.heap.inj q (0,ms) c _ hq hlook hl rfl hqm g hg (by rw[hblk0];exact e)
       refine⟨hgrow.block g (hr.heap.lt g hog) (fun e=>hne e.symm),.inl hog,fun _ e=>?_⟩
       rw[hblk] at e
       rcases hwhere with h|h
       · rw[h] at e;exact hne e
       · rw[h] at e;simp at e;have:=hr.heap.lt g hog;omega)
   (.row v' e' 1 _ _ (fun g hg=>.inr hg) hk0 (by rw[zAa,zA4,zet];exact hown') hrow)
  refine⟨_,v',w',z5g β d v',_,?_,.inl rfl,?_,hE,z2w _ _ _⟩
  · simp[execOp,resolve,invoke,builtin,hv,hyv,hrun]
  · exact zD29
theorem zhz {t tu e:TypeId} {ti tui te:TI} [ht:z15 P t ti] [hu:z15 P tu tui] [he:z15 P e te] {x y:Operand} {ms:Nat} {sb:ByteArray} {q:List Int} (hev:St.evs ⟨n,tm,hp,up⟩ [x,y]=some [.ref (0,ms),S sb]) (hb:look hp ms=some (.row e 1 (q.map by8)))
 (hk:ti.kind=.slice e) (hku:tui.kind=.str) (hs1:te.size=1) (hb1:te.bytes=1) (hz:(P.info? e).bind (·.zero)=some (Value.int .u8 0)) (hfr:(z1d d hp&&z1h d tm)=true) (hd:d<n) (hq:q.length+sb.size≤137438953472)
 (h:Ops P f R all l k ⟨n,(d,.ref (0,d))::tm,(d,.row e 1 ((q++btI sb).map by8))::(ms,.gone)::hp,up⟩) :
 Op1 P f R all ⟨some d,.call ⟨.builtin .append,#[x,y],#[t,tu]⟩,ty,pos,aft,gd⟩ l k ⟨n,tm,hp,up⟩:=by
 obtain⟨hx,hy,_⟩:=evE (xs:=[(x,.ref (0,ms)),(y,S sb)]) hev
 refine z0b (zbk (P:=P) (s:=⟨n,tm,hp,up⟩) (m:=(0,ms)) ht hu he hx hy hb rfl hk hku rfl rfl hs1 hb1 hz (by simpa using hq) hfr hd) ?_
 rw[List.map_append] at h;exact h
end Go.Ab
namespace Go.Ab
variable {P:Program} {f:FuncId} {R:z3x} {k:List Item} {all:Array Oper} {o:Oper} {l:List Oper}
variable {n:Nat} {tm:List (Nat × PV)} {hp:Hp} {up:Hf} {d:Nat} {ty:TypeId} {pos:String} {aft:Array Edge} {gd:Option (Nat × Bool)} {op:Op} {p:PV}
def zhx (P:Program) (g:FuncId) (args:List PV) (bs hs:List (Nm × Blk)) (p:PV) (a b:Nat):Prop :=
 ∀ H:Hf,(∀ q∈bs,H q.1.1 q.1.2=some q.2)→H 0 a=some .gone→H 0 b=some .gone→Quiet H a→Quiet H b→z9t P g args H ⟨fun r H'=>r=.v p∧H'=zd1 H hs,fun n=>n=(0,a)∨n=(0,b),none⟩
theorem z92 {g:FuncId} {args:List PV} {bs hs:List (Nm × Blk)} {p:PV} {a b:Nat} (h:∀ H:Hf,(∀ q∈bs,H q.1.1 q.1.2=some q.2)→H 0 a=some .gone→H 0 b=some .gone→Quiet H a→Quiet H b→z9t P g args H ⟨fun r H'=>r=.v p∧H'=zd1 H hs,fun n=>n=(0,a)∨n=(0,b),none⟩):zhx P g args bs hs p a b:=h
def zu6 (m1 m2:Nat) (hs:List (Nm × Blk)):Bool:=(hs.any fun q=>q.1 == (0,m1))&&(hs.any fun q=>q.1 == (0,m2))
theorem zf3 {m:Nm} {z:Blk}:∀ {hs:List (Nm × Blk)} {H:Hf},(hs.any fun q=>q.1 == m)=true→zd1 (upd H m z) hs=zd1 H hs
 | [],H,h=>by simp at h
 | (x,b)::r,H,h=>by
  rw[zd1,zd1]
  by_cases e:x=m
  · subst e;rw[z2t]
  · rw[List.any_cons,zAt] at h
    rcases h with h|h
    · simp at h;exact absurd h e
    · rw[zb5 (Ne.symm e),zf3 h]
theorem znm {m:Nat}:∀ {hp:Hp} {t:Nat} {b:Blk},z1d m hp=true→look hp t=some b→b.says (0,m)=false:=by
 intro hp
 induction hp with
 | nil=>intro t b _ h;simp[look] at h
 | cons q r ih =>
  obtain⟨kk,c⟩:=q
  intro t b hf h
  simp only[z1d,zA7,zA6] at hf
  simp only[look] at h
  split at h
  · simp at h;subst h;simp_all
  · exact ih (by simp_all) h
theorem zbv {m:Nat}:∀ {tm:List (Nat × PV)} {t:Nat} {q:PV},z1h m tm=true→look tm t=some q→q.says (0,m)=false:=by
 intro tm
 induction tm with
 | nil=>intro t b _ h;simp[look] at h
 | cons q r ih =>
  obtain⟨kk,c⟩:=q
  intro t b hf h
  simp only[z1h,zA7,zA6] at hf
  simp only[look] at h
  split at h
  · simp at h;subst h;simp_all
  · exact ih (by simp_all) h
theorem PR.re2 {β β':Nm→Value} {w:World} {own:Nat→Prop} {m1 m2:Nat} (hβ:∀ x,¬ (x=(0,m1)∨x=(0,m2))→β' x=β x) {q:PV} {v:Value} (h:PR β w own q v) (h1:q.says (0,m1)=false) (h2:q.says (0,m2)=false):PR β' w own q v:=by
 let γ:Nm→Value:=fun m=>if m=(0,m1) then β m else β' m
 have g1:∀ q,q≠(0,m2)→γ q=β q:=fun q hq=>by
  by_cases e:q=(0,m1)
  · simp[γ,e]
  · simp only[γ,e,if_false]
    exact hβ q (fun h=>h.elim e hq)
 have g2:∀ q,q≠(0,m1)→β' q=γ q:=fun q hq=>by simp[γ,hq]
 exact(h.reβ (0,m2) g1 h2).reβ (0,m1) g2 h1
theorem zcf {i:Nat} {s:St} {g:FuncId} {args:List Operand} {ps:List PV} {ats:Array TypeId} {bs hs:List (Nm × Blk)} {m1 m2:Nat} (ho:all[i]? =some ⟨some d,.call ⟨.value (.func g),args.toArray,ats⟩,ty,pos,aft,gd⟩)
 (hw:∀ β own a w,Rep s β own a w→Region.wanted ⟨some d,.call ⟨.value (.func g),args.toArray,ats⟩,ty,pos,aft,gd⟩ (yielded all a.tmps)=true)
 (hev:s.evs args=some ps) (hsp:zhx P g ps bs hs p m1 m2) (hb:∀ q∈bs,push s.hp s.up q.1.1 q.1.2=some q.2) (hbn:(bs.all fun q=>q.1 != (0,m1)&&q.1 != (0,m2))=true) (hm:m1≠m2)
 (hf1:(z1d m1 s.hp&&z1h m1 s.tm)=true) (hf2:(z1d m2 s.hp&&z1h m2 s.tm)=true) (hcov:zu6 m1 m2 hs=true) (hd:d<s.n) :
 zlb P f R all k i s (s.app ⟨[],[],[],[(d,p)],hs⟩):=by
 intro is h β own a w hrep b hb' hk hn cs
 simp only[zA7] at hf1 hf2
 simp only[zu6,zA7] at hcov
 rw[List.all_eq_true] at hbn
 have hr1:HR (upd (upd (push s.hp s.up) (0,m1) .gone) (0,m2) .gone) β own w:=(hrep.heap.drop (0,m1)).drop (0,m2)
 have hq:∀ x,z1d x s.hp=true→Quiet (upd (upd (push s.hp s.up) (0,m1) .gone) (0,m2) .gone) x:=fun x hx=>Quiet.upd (Quiet.upd (fun t c hc=>znm hx hc) rfl) rfl
 have hsp':=hsp (upd (upd (push s.hp s.up) (0,m1) .gone) (0,m2) .gone) (fun q hqb=>by
  have:=hbn q hqb
  simp only[zA7,bne_iff_ne,ne_eq] at this
  exact z0s (z0s (hb q hqb) (fun e=>this.1 (Prod.ext e.1 e.2))) (fun e=>this.2 (Prod.ext e.1 e.2))) (z0s (z4n _ (0,m1) _) (by simp[hm])) (z4n _ (0,m2) _) (hq m1 hf1.1) (hq m2 hf2.1)
 obtain⟨vals,hrun,hargs⟩:=z8a (first:=[]) (cap:=[]) (fo:=.func g) hrep rfl hev hsp'.plain (dst:=some d) (ats:=ats) (ty:=ty) (pos:=pos) (aft:=aft) (gd:=gd)
 obtain⟨e,w',fr,⟨v,r,H,own',β',rfl,⟨rfl,rfl⟩,hrv,hheap,hext,hβ⟩,hsteps,_,hleave⟩:=hsp'.run β own w vals hr1 (by simpa using hargs) (am b a (.inRegion all (i::is)::k)::cs)
 cases hrv with
 | v _ _ hpv =>
  have hr':Rep (s.setBs hs) β' own' a w':=by
   refine⟨?_,hrep.defers,fun t q hq=>?_,?_⟩
   · rw[(z3b hs s).2.1];exact hrep.size
   · rw[(z3b hs s).1] at hq
     exact((hrep.tm t q hq).mono hext).re2 hβ (zbv hf1.2 hq) (zbv hf2.2 hq)
   · rw[z7t]
     rw[zf3 hcov.2,zf3 hcov.1] at hheap
     exact hheap
  have hr2:=hr'.put (dst:=some d) (p:=p) (v:=v) (by simp[St.fits,(z3b hs s).2.1,hd]) hpv
  have hout:z62 β'=z62 β:=funext fun m=>hβ _ (by simp)
  have hn':z9u R (z62 β') b:=by rw[hout];exact hn
  have:=h β' own' _ w' hr2 b hb' hk hn' cs
  rw[hout] at this
  exact(this.ext hext).of_steps (zew ho (hw β own a w hrep) hrun hsteps hleave)
theorem zuo {id:Nat} {ops:List Oper} {s0:St} {done:List Eff} {g:FuncId} {args:List Operand} {ps:List PV} {ats:Array TypeId} {bs hs:List (Nm × Blk)} {m1 m2:Nat} {gr:List (Nat × PV)} {s':St} (hsp:zhx P g ps bs hs p m1 m2) (hg:GOK ops.toArray gd gr ⟨n,tm,hp,up⟩) (hev:St.evs ⟨n,tm,hp,up⟩ args=some ps)
 (hb:BkE ⟨n,tm,hp,up⟩ bs) (hbn:(bs.all fun q=>q.1 != (0,m1)&&q.1 != (0,m2))=true) (hm:m1≠m2) (hf1:(z1d m1 hp&&z1h m1 tm)=true) (hf2:(z1d m2 hp&&z1h m2 tm)=true) (hcov:zu6 m1 m2 hs=true) (hd:d<n) (hs':St.app ⟨n,tm,hp,up⟩ ⟨[],[],[],[(d,p)],hs⟩=s')
 (h:Tr P f R id ops k s0 (done++[⟨gr++rd (args.zip ps),bs,[m1,m2],[(d,p)],hs⟩]) s' l):Tr P f R id ops k s0 done ⟨n,tm,hp,up⟩ (⟨some d,.call ⟨.value (.func g),args.toArray,ats⟩,ty,pos,aft,gd⟩::l):=by
 replace hb:=bkE hb
 obtain⟨hz1,hz2⟩:=z6d hev
 refine zbq (e:=⟨gr++rd (args.zip ps),bs,[m1,m2],[(d,p)],hs⟩) (fun i hi s1 hn hs1=>?_) ⟨fun q hq=>?_,z6i hb,fun x hx=>by
  simp only[zAc,List.not_mem_nil,or_false] at hx
  rcases hx with rfl|rfl
  · exact hf1
  · exact hf2⟩ hs' h
 · have hev1:s1.evs args=some ps:=hz2 s1 (z4p hz1 fun q hq=>hs1.ins q (by simp[hq]))
   exact zcf hi (fun β own a w hr=>hg.wanted (fun q hq=>hs1.ins q (by simp[hq])) rfl hr) hev1 hsp (fun q hq=>hs1.pre q hq) hbn hm (hs1.free m1 (by simp)) (hs1.free m2 (by simp)) hcov (by rw[hn];exact hd)
 · exact zD68
theorem zw0 {g:FuncId} {args:List Operand} {ps:List PV} {ats:Array TypeId} {bs hs:List (Nm × Blk)} {m1 m2:Nat} {s':St} (hsp:zhx P g ps bs hs p m1 m2) (hev:St.evs ⟨n,tm,hp,up⟩ args=some ps)
 (hb:BkE ⟨n,tm,hp,up⟩ bs) (hbn:(bs.all fun q=>q.1 != (0,m1)&&q.1 != (0,m2))=true) (hm:m1≠m2) (hf1:(z1d m1 hp&&z1h m1 tm)=true) (hf2:(z1d m2 hp&&z1h m2 tm)=true) (hcov:zu6 m1 m2 hs=true) (hd:d<n) (hs':St.app ⟨n,tm,hp,up⟩ ⟨[],[],[],[(d,p)],hs⟩=s') (h:Ops P f R all l k s') :
 Op1 P f R all ⟨some d,.call ⟨.value (.func g),args.toArray,ats⟩,ty,pos,aft,none⟩ l k ⟨n,tm,hp,up⟩:=by
 intro i rest ho hrest
 have:=zcf (s:=⟨n,tm,hp,up⟩) (f:=f) (R:=R) (k:=k) (gd:=none) (pos:=pos) (aft:=aft) (ty:=ty) (ats:=ats) ho (fun _ _ _ _ _=>rfl) hev hsp (fun q hq=>z6i (bkE hb) q hq) hbn hm hf1 hf2 hcov hd rest
 intro β own a w hrep hw
 rw[hs'] at this
 exact this (h rest hrest) β own a w hrep
section
variable {g:FuncId} {args:List Operand} {ps:List PV} {ats:Array TypeId} {bs:List (Nm × Blk)} {m1 m2 a0 a1 a2 a3 a4 a5:Nat} {x0 x1 x2 x3 x4 x5:Blk}
theorem z8i {e1 e2:TypeId} {k1 k2:Nat} {r1 r2:List (List D)} (hsp:zhx P g ps bs [((0,a0),x0),((0,a1),x1),((0,a2),x2),((0,m1),.row e1 k1 r1),((0,m2),.row e2 k2 r2),((0,a0),x5)] p m1 m2) (hev:St.evs ⟨n,tm,hp,up⟩ args=some ps)
 (hb:BkE ⟨n,tm,hp,up⟩ bs) (hbn:(bs.all fun q=>q.1 != (0,m1)&&q.1 != (0,m2))=true) (hm:m1≠m2) (hf1:(z1d m1 hp&&z1h m1 tm)=true) (hf2:(z1d m2 hp&&z1h m2 tm)=true) (hcov:zu6 m1 m2 [((0,a0),x0),((0,a1),x1),((0,a2),x2),((0,m1),.row e1 k1 r1),((0,m2),.row e2 k2 r2),((0,a0),x5)]=true) (hd:d<n)
 (hl1:look ((a0,x5)::(m2,.row e2 k2 r2)::(m1,.row e1 k1 r1)::(a2,x2)::(a1,x1)::(a0,x0)::hp) m1=some (.row e1 k1 r1)) (hc1:(!(m1 == a1)&&!(Blk.row e1 k1 r1).says (0,a1))=true)
 (hl2:look ((a1,.row e1 k1 r1)::(m1,.gone)::zcc m1 a1 ((a0,x5)::(m2,.row e2 k2 r2)::(m1,.row e1 k1 r1)::(a2,x2)::(a1,x1)::(a0,x0)::hp)) m2=some (.row e2 k2 r2)) (hc2:(!(m2 == a2)&&!(Blk.row e2 k2 r2).says (0,a2))=true)
 (h:Ops P f R all l k ⟨n,za3 m2 a2 (za3 m1 a1 ((d,p)::tm)),(a2,.row e2 k2 r2)::(m2,.gone)::zcc m2 a2 ((a1,.row e1 k1 r1)::(m1,.gone)::zcc m1 a1 ((a0,x5)::(m2,.row e2 k2 r2)::(m1,.row e1 k1 r1)::(a2,x2)::(a1,x1)::(a0,x0)::hp)),up⟩) :
 Op1 P f R all ⟨some d,.call ⟨.value (.func g),args.toArray,ats⟩,ty,pos,aft,none⟩ l k ⟨n,tm,hp,up⟩:=by
 refine zw0 hsp hev hb hbn hm hf1 hf2 hcov hd rfl ?_
 refine zfa m1 a1 (q:=.row e1 k1 r1) hl1 hc1 ?_
 exact zfa m2 a2 (q:=.row e2 k2 r2) hl2 hc2 h
theorem zs3 {id:Nat} {ops:List Oper} {s0:St} {done:List Eff} {gr:List (Nat × PV)} (hsp:zhx P g ps bs [((0,a0),x0),((0,a1),x1),((0,a2),x2),((0,a3),x3),((0,a4),x4),((0,a5),x5)] p m1 m2) (hg:GOK ops.toArray gd gr ⟨n,tm,hp,up⟩) (hev:St.evs ⟨n,tm,hp,up⟩ args=some ps)
 (hb:BkE ⟨n,tm,hp,up⟩ bs) (hbn:(bs.all fun q=>q.1 != (0,m1)&&q.1 != (0,m2))=true) (hm:m1≠m2) (hf1:(z1d m1 hp&&z1h m1 tm)=true) (hf2:(z1d m2 hp&&z1h m2 tm)=true) (hcov:zu6 m1 m2 [((0,a0),x0),((0,a1),x1),((0,a2),x2),((0,a3),x3),((0,a4),x4),((0,a5),x5)]=true) (hd:d<n)
 (h:Tr P f R id ops k s0 (done++[⟨gr++rd (args.zip ps),bs,[m1,m2],[(d,p)],[((0,a0),x0),((0,a1),x1),((0,a2),x2),((0,a3),x3),((0,a4),x4),((0,a5),x5)]⟩]) ⟨n,(d,p)::tm,(a5,x5)::(a4,x4)::(a3,x3)::(a2,x2)::(a1,x1)::(a0,x0)::hp,up⟩ l):Tr P f R id ops k s0 done ⟨n,tm,hp,up⟩ (⟨some d,.call ⟨.value (.func g),args.toArray,ats⟩,ty,pos,aft,gd⟩::l) :=
 zuo hsp hg hev hb hbn hm hf1 hf2 hcov hd rfl h
theorem zhe {id:Nat} {ops:List Oper} {s0:St} {done:List Eff} {gr:List (Nat × PV)} {b1 b2 b':Blk} (hsp:z1r P g ps [((0,m1),b1),((0,m2),b2)] [((0,m2),b')] p) (hg:GOK ops.toArray gd gr ⟨n,tm,hp,up⟩) (hev:St.evs ⟨n,tm,hp,up⟩ args=some ps)
 (h1:look hp m1=some b1) (h2:look hp m2=some b2) (hd:d<n) (h:Tr P f R id ops k s0 (done++[⟨gr++rd (args.zip ps),[((0,m1),b1),((0,m2),b2)],[],[(d,p)],[((0,m2),b')]⟩]) ⟨n,(d,p)::tm,(m2,b')::hp,up⟩ l) :
 Tr P f R id ops k s0 done ⟨n,tm,hp,up⟩ (⟨some d,.call ⟨.value (.func g),args.toArray,ats⟩,ty,pos,aft,gd⟩::l) :=
 zin hsp hg hev (by simp[BkE,z4l,push,h1,h2]) hd rfl h
end
end Go.Ab
namespace Go.Ab
theorem z0m.at {P:Program} {g:FuncId} {args:List PV} {p:PV} (h:z0m P g args p) (H:Hf):Spec P g args H (fun r H'=>r=.v p∧H'=H):=h H
end Go.Ab
namespace Go.Ab
variable {P:Program} {f:FuncId} {R:z3x} {k:List Item} {n:Nat} {tm tm0:List (Nat × PV)} {hp hp0:Hp} {up up0:Hf}
end Go.Ab
namespace Go.Ab
open Go.ChangeShapes Go.WideShapes Go.ChangeAt Go.RowKit
variable {H:Type} {enc:TypeId × Value→H} {P:Program}
def zuq (P:Program) (G:List TypeId):Bool:=G.all fun t=>match P.underlying t with
 | some (.int .u8)=>false
 | _=>true
theorem Sh.zuq {G:List TypeId} {t:TypeId} {ds:List D} (h:Sh P t ds) (hG:zhq P G=true) (hN:Ab.zuq P G=true) (ht:t∈G):∀ x∈ds,∀ z,x≠.lit (.int .u8 z):=by
 induction h with
 | int t k z hu h1 h2 =>
  intro x hx z' e
  simp only[zAp] at hx
  subst hx
  simp only[D.lit.injEq,Value.int.injEq] at e
  have:=List.all_eq_true.1 hN t ht
  rw[hu,e.1] at this
  simp at this
 | bool t b hu=>intro x hx z' e;simp only[zAp] at hx;subst hx;simp at e
 | str t s hu hs=>intro x hx z' e;simp only[zAp] at hx;subst hx;simp at e
 | slice t e' xs hu hl hx ih=>intro x hx z' e;simp only[zAp] at hx;subst hx;simp at e
 | struct t fs parts hu hl hp ih =>
  intro x hx z' e
  rw[List.mem_flatten] at hx
  obtain⟨p,hp1,hp2⟩:=hx
  obtain⟨i,hi⟩:=zAv hp1
  have hil:i<fs.length:=by have:=(zA1.1 hi).1;omega
  have hf:fs[i]? =some fs[i]:=zA0 hil
  have hg:=List.all_eq_true.1 hG t ht
  rw[hu] at hg
  simp only[zA7] at hg
  have hm:fs[i].type∈G:=List.contains_iff_mem.1 (List.all_eq_true.1 hg.1 fs[i] (by simp))
  exact ih i fs[i] p hf hi hm x hp2 z' e
theorem zw5 {W:World} {own:Nat→Prop} (hsep:∀ g o v,own g→W.cell? ⟨g,o,none⟩=some v→∃ z,v=.int .u8 z) {base:Nat} {sp:Nat→Bool} {held:Bool} {G:List TypeId} (hG:zhq P G=true) (hN:zuq P G=true):∀ (fuel:Nat) (t:TypeId) (cs:List Value) (x:DataW H × List MemPlace),t∈G→DataW.trod enc P W base sp held fuel t cs=some x →
 ∃ ds,Sh P t ds∧CD W own ds cs:=by
 intro fuel
 induction fuel using Nat.strongRecOn with
 | _ fuel ih =>
 intro t cs x ht h
 have hg:=List.all_eq_true.1 hG t ht
 cases hu:P.underlying t with
 | none=>rw[hu] at hg;simp at hg
 | some u =>
  rw[hu] at hg
  cases u with
  | bool =>
   obtain⟨b,rfl,_⟩:=DataW.trod_bool hu h
   exact⟨_,.bool t b hu,.one (.lit _ rfl) rfl⟩
  | int k =>
   obtain⟨z,rfl,_,hw⟩:=DataW.trod_int hu h
   simp only[Lit.wf,zA7,zA3] at hw
   exact⟨_,.int t k z hu hw.1 hw.2,.one (.lit _ rfl) rfl⟩
  | string =>
   obtain⟨s,rfl,_,hs⟩:=DataW.trod_string hu h
   exact⟨_,.str t s hu hs,.one (.lit _ rfl) rfl⟩
  | slice e =>
   simp only[zA7,zA3] at hg
   obtain⟨he,hc0⟩:=hg
   have he:e∈G:=List.contains_iff_mem.1 he
   rcases DataW.trod_slice hu h with ⟨rfl,_⟩|⟨a,len,cap,elems,rest,n,hfu,rfl,_,hb,hl,hm,hlen,hel,_⟩
   · exact⟨_,.slice t e [] hu (by simp) (by simp),.one (.nil none 0) rfl⟩
   · by_cases h0:len=0
     · subst h0
       exact⟨_,.slice t e [] hu (by simp) (by simp),.one (.nil _ _) rfl⟩
     have each:∀ i,i<len→∃ cs':List Value,W.cells? base (a.add (i*P.cellsOf e)) (P.cellsOf e)=some cs'∧∃ ds,Sh P e ds∧CD W own ds cs':=fun i hi=>by
      have h1:=hel i hi
      rw[zA0 (by omega)] at h1
      obtain⟨cs',h2,h3⟩:=Option.bind_eq_some_iff.1 h1
      exact⟨cs',h2,ih n (by omega) e cs' _ he h3⟩
     obtain⟨r,hr1,hr2⟩:=z90 (p:=fun i (_:Nat) (b:List D × List Value)=>W.cells? base (a.add (i*P.cellsOf e)) (P.cellsOf e)=some b.2∧Sh P e b.1∧CD W own b.1 b.2) (List.range len) 0 fun i q hq=>by
      have:i<len:=by have:=(zA1.1 hq).1;simpa using this
      obtain⟨cs',h2,ds,h3,h4⟩:=each i this
      exact⟨(ds,cs'),by simpa using h2,h3,h4⟩
     rw[List.length_range] at hr1
     have hr:∀ (i:Nat) (b:List D × List Value),r[i]? =some b→W.cells? base (a.add (i*P.cellsOf e)) (P.cellsOf e)=some b.2∧Sh P e b.1∧CD W own b.1 b.2:=fun i b hb=>by
      have hi:i<len:=by have:=(zA1.1 hb).1;omega
      have:=hr2 i i b (List.getElem?_range hi) hb
      simpa using this
     obtain⟨g,o,spn⟩:=a
     obtain⟨b0,hb0⟩:∃ b0,r[0]? =some b0:=⟨_,zA0 (by omega)⟩
     have hc:=(World.cells?_some (hr 0 b0 hb0).1).2.2 0 hc0
     have hlen0:=(World.cells?_some (hr 0 b0 hb0).1).2.1
     simp only[Nat.zero_mul,Addr.add,if_true,World.cell?] at hc
     rw[zA0 (by omega)] at hc
     have hg':g<W.heap.size:=by
      cases hq:W.heap[g]? with
      | none=>rw[hq] at hc;simp at hc
      | some q=>exact(Array.getElem?_eq_some_iff.1 hq).1
     have hsp:spn=none:=by
      cases spn with
      | none=>rfl
      | some q =>
       cases hq:W.heap[g]? with
       | none=>rw[hq] at hc;simp at hc
       | some b=>rw[hq] at hc;cases b <;> simp at hc
     subst hsp
     have hxl:(r.map (·.1)).length=len:=by simp[hr1]
     refine⟨[.slice (r.map (·.1))],.slice t e _ hu (by rw[hxl];omega) (fun x hx=>?_),.one ?_ rfl⟩
     · simp only[List.mem_map] at hx
       obtain⟨b,hb,rfl⟩:=hx
       obtain⟨i,hi⟩:=zAv hb
       exact(hr i b hi).2.1
     · have:=DR.slice (w:=W) (own:=own) (r.map (·.1)) g o cap (P.cellsOf e) (fun i j=>((r.getD i ([],[])).2).getD j undef) (by rw[hxl];exact hl) (fun hown=>by
        have q:=hr 0 b0 hb0
        have q1:=(World.cells?_some q.1).2.2 0 hc0
        have q0:=(World.cells?_some q.1).2.1
        obtain⟨v0,hv0⟩:∃ v0,b0.2[0]? =some v0:=⟨_,zA0 (by omega)⟩
        have hd0:0<b0.1.length:=by rw[q.2.2.1];omega
        obtain⟨x0,hx0⟩:∃ x0,b0.1[0]? =some x0:=⟨_,zA0 hd0⟩
        have hdr:=q.2.2.2.2 0 x0 v0 hx0 hv0
        rw[hv0] at q1
        simp only[Nat.zero_mul,Addr.add] at q1
        obtain⟨z,rfl⟩:=hsep g _ v0 hown q1
        exact(q.2.1.zuq hG hN he x0 (zA2 hx0) z) (by cases hdr with|lit _ _=>rfl)) hg'
        (by
          intro x hx
          simp only[List.mem_map] at hx
          obtain⟨b,hb,rfl⟩:=hx
          obtain⟨i,hi⟩:=zAv hb
          rw[(hr i b hi).2.2.1];exact(World.cells?_some (hr i b hi).1).2.1)
        (by
          intro i hi j hj
          rw[hxl] at hi
          obtain⟨b,hb⟩:∃ b,r[i]? =some b:=⟨_,zA0 (by omega)⟩
          have hg1:r.getD i ([],[])=b:=by rw[List.getD,hb];rfl
          obtain⟨k1,k2,k3⟩:=hr i b hb
          obtain⟨_,q2,q3⟩:=World.cells?_some k1
          have:=q3 j hj
          rw[Go.Ab.z4m,Go.Ab.z4m,Nat.add_assoc] at this
          rw[hg1]
          obtain⟨v,hv⟩:∃ v,b.2[j]? =some v:=⟨_,zA0 (by omega)⟩
          have hgv:b.2.getD j undef=v:=by rw[List.getD,hv];rfl
          rw[hgv]
          exact⟨this.trans hv,k3.2.1 v (zA2 hv)⟩)
        (by
          intro i x hx j y hy
          rw[zAd] at hx
          cases hb:r[i]? with
          | none=>rw[hb] at hx;simp at hx
          | some b =>
           rw[hb] at hx;simp at hx;subst hx
           have hg1:r.getD i ([],[])=b:=by rw[List.getD,hb];rfl
           obtain⟨k1,k2,k3⟩:=hr i b hb
           have hj:j<b.2.length:=by rw[← k3.1];exact(zA1.1 hy).1
           obtain⟨v,hv⟩:∃ v,b.2[j]? =some v:=⟨_,zA0 hj⟩
           have hgv:b.2.getD j undef=v:=by rw[List.getD,hv];rfl
           rw[hg1,hgv]
           exact k3.2.2 j y v hy hv)
       rw[hxl] at this
       exact this
  | struct fs =>
   simp only[zA7,beq_iff_eq] at hg
   obtain⟨hfs,hlay⟩:=hg
   obtain⟨xs,n,hfu,_,hcl,hxl,hf⟩:=DataW.trod_struct hu h
   obtain⟨r,hr1,hr2⟩:=z90 (p:=fun i (f:Field) (b:List D)=>Sh P f.type b∧CD W own b ((cs.drop f.offset).take (P.cellsOf f.type))) fs.toList 0 fun i f hif=>by
    have h1:=hf i f (by simpa using hif)
    have hi:i<fs.size:=by have:=(zA1.1 hif).1;simpa using this
    rw[zA0 (by omega)] at h1
    have hfg:f.type∈G:=List.contains_iff_mem.1 (List.all_eq_true.1 hfs f (zA2 hif))
    obtain⟨ds,h2,h3⟩:=ih n (by omega) f.type _ _ hfg h1
    exact⟨ds,h2,h3⟩
   obtain⟨e1,_⟩:=zld cs fs.toList 0 _ hlay (by omega)
   rw[List.drop_zero,Nat.sub_zero,← hcl,List.take_length] at e1
   refine⟨r.flatten,.struct t fs.toList r (by simpa using hu) hr1 (fun i f x h1 h2=>(hr2 i f x h1 h2).1),?_⟩
   rw[← e1]
   refine zkq r _ (by simp[hr1]) fun i a b ha hb=>?_
   rw[zAd] at hb
   cases hif:fs.toList[i]? with
   | none=>rw[hif] at hb;simp at hb
   | some f=>rw[hif] at hb;simp at hb;subst hb;exact(hr2 i f a hif ha).2
  | _=>simp at hg
theorem zof {W:World} {own:Nat→Prop} (hsep:∀ g o v,own g→W.cell? ⟨g,o,none⟩=some v→∃ z,v=.int .u8 z) {t:TypeId} {v:Value} {d:DataW H} {p:List MemPlace} {r:Reach} {b0:Nat} {G:List TypeId} (hG:zhq P G=true) (hN:zuq P G=true) (ht:G.contains t=true) (hval:Value.okWide P W r b0 t v)
 (h:DataW.Trod enc P W 0 (fun _=>true) true t v d p):∃ ds,Sh P t ds∧((∃ fs,P.underlying t=some (.struct fs))→DR W own (.agg ds) v)∧(∀ x,ds=[x]→(∀ fs,P.underlying t≠some (.struct fs))→DR W own x v):=by
 obtain⟨fuel,h⟩:=h
 obtain⟨ds,h1,h2⟩:=zw5 hsep hG hN fuel t _ _ (List.contains_iff_mem.1 ht) h
 refine⟨ds,h1,fun ⟨fs,hs⟩=>?_,fun x hx hn=>?_⟩
 · obtain⟨cs,rfl,_⟩:=okWide_struct hs hval
   simp only[Value.cells] at h2
   have:=DR.agg ds cs.toList h2.1 h2.2.1 h2.2.2
   simpa using this
 · subst hx
   have hc:v.cells.toList=[v]:=by
    have hg:=List.all_eq_true.1 hG t (List.contains_iff_mem.1 ht)
    cases hu:P.underlying t with
    | none=>rw[hu] at hg;simp at hg
    | some u =>
     rw[hu] at hg
     cases u with
     | bool=>obtain⟨b,rfl⟩:=okWide_bool hu hval;rfl
     | int k=>obtain⟨b,rfl⟩:=okWide_int hu hval;rfl
     | string=>obtain⟨b,rfl⟩:=okWide_string hu hval;rfl
     | slice e=>obtain⟨a,l,c,rfl⟩:=okWide_slice hu hval;rfl
     | struct fs=>exact absurd hu (hn fs)
     | _=>simp at hg
   rw[hc] at h2
   exact h2.2.2 0 x v rfl rfl
end Go.Ab
namespace Go.Ab
open Go.ChangeShapes Go.WideShapes Go.ChangeAt Go.RowKit
variable {P:Program}
theorem zg1 {g0 g1:Nat} (hgg:g0≠g1) {f:FuncId} {ps:List PV} {vs:List Value} {o0 o1:Obj} (h:z1r P f ps [((0,700),.glob g0 o0),((0,701),.glob g1 o1)] [] (B true)) (W:World) (h0:W.heap[g0]? =some o0) (h1:W.heap[g1]? =some o1) (hd0:∀ x,o0≠.deferred x) (hd1:∀ x,o1≠.deferred x)
 (hl:ps.length=vs.length) (ha:∀ (β:Nm→Value) (j:Nat) (p:PV) (v:Value),ps[j]? =some p→vs[j]? =some v→PR β W (fun g=>g=g0∨g=g1) p v) :
 Calls P f vs.toArray W fun e W'=>e=.returned (.bool true)∧∃ own',Ext W (fun _=>False) W' own':=by
 let β:Nm→Value:=fun m=>if m=(0,700) then .pointer (some ⟨g0,0,none⟩) else if m=(0,701) then .pointer (some ⟨g1,0,none⟩) else undef
 let H:Hf:=fun d s=>if d=0∧s=700 then some (.glob g0 o0) else if d=0∧s=701 then some (.glob g1 o1) else none
 have hlook:∀ n b,z13 H n=some b→(n=(0,700)∧b=.glob g0 o0)∨(n=(0,701)∧b=.glob g1 o1):=by
  rintro⟨d,s⟩ b hb
  cases d with
  | zero =>
   simp only[z13,H,true_and] at hb
   by_cases e1:s=700
   · rw[zAy e1] at hb;simp at hb;subst hb e1;exact .inl ⟨rfl,rfl⟩
   · rw[zAx e1] at hb
     by_cases e2:s=701
     · rw[zAy e2] at hb;simp at hb;subst hb e2;exact .inr ⟨rfl,rfl⟩
     · rw[zAx e2] at hb;cases hb
  | succ d =>
   simp only[z13,H] at hb
   simp at hb
 have l0:z13 H (0,700)=some (.glob g0 o0):=rfl
 have l1:z13 H (0,701)=some (.glob g1 o1):=rfl
 have hHR:HR H β (fun g=>g=g0∨g=g1) W:=by
  refine⟨fun n b hb=>?_,fun n m bn bm hn hm _ _ hne g hg=>?_,fun g hg=>?_⟩
  · rcases hlook n b hb with ⟨rfl,rfl⟩|⟨rfl,rfl⟩
    · exact .glob g0 o0 (.inl rfl) h0 hd0
    · exact .glob g1 o1 (.inr rfl) h1 hd1
  · rcases hlook n bn hn with ⟨rfl,rfl⟩|⟨rfl,rfl⟩ <;> rcases hlook m bm hm with ⟨rfl,rfl⟩|⟨rfl,rfl⟩
    · exact absurd rfl hne
    · have eb0:z1y (β (0,700))=some g0:=rfl
      have eb1:z1y (β (0,701))=some g1:=rfl
      rw[eb0] at hg;rw[eb1];simp at hg ⊢;omega
    · have eb0:z1y (β (0,700))=some g0:=rfl
      have eb1:z1y (β (0,701))=some g1:=rfl
      rw[eb1] at hg;rw[eb0];simp at hg ⊢;omega
    · exact absurd rfl hne
  · rcases hg with rfl|rfl
    · exact(Array.getElem?_eq_some_iff.1 h0).1
    · exact(Array.getElem?_eq_some_iff.1 h1).1
 have hsp:=h H (fun q hq=>by
  simp only[zAc,List.not_mem_nil,or_false] at hq
  rcases hq with rfl|rfl <;> rfl)
 refine(hsp.run β (fun g=>g=g0∨g=g1) W vs hHR ⟨hl,fun j p v h1 h2=>ha β j p v h1 h2⟩).mono fun e W' ⟨v,r,H',own',he,⟨hr,hH'⟩,hv,hheap,hE⟩=>?_
 subst hr hH'
 cases hv with
 | v _ _ hp =>
  refine⟨by rw[he,PR.lit hp],fun _=>False,hE.os,hE.tape,hE.output,hE.size,fun b hb _=>?_,fun _ _ h=>h⟩
  have gg0:W'.heap[g0]? =some o0:=by
   have:=hheap.blk (0,700) (.glob g0 o0) l0
   generalize hx:β (0,700)=x at this
   cases this with|glob _ _ _ hg _=>exact hg
  have gg1:W'.heap[g1]? =some o1:=by
   have:=hheap.blk (0,701) (.glob g1 o1) l1
   generalize hx:β (0,701)=x at this
   cases this with|glob _ _ _ hg _=>exact hg
  by_cases e0:b=g0
  · rw[e0,gg0,h0]
  by_cases e1:b=g1
  · rw[e1,gg1,h1]
  exact hE.block b hb (by simp only[not_or];exact⟨e0,e1⟩)
end Go.Ab
namespace Go.Ab
section
variable {P:Program} {f:FuncId} {R:z3x} {k:List Item} {all:Array Oper} {o:Oper} {l:List Oper}
variable {n:Nat} {tm:List (Nat × PV)} {hp:Hp} {up:Hf} {d:Nat} {ty:TypeId} {pos:String} {aft:Array Edge} {gd:Option (Nat × Bool)} {p:PV}
theorem zd6 {g:FuncId} {args:List Operand} {ps:List PV} {ats:Array TypeId} {bs:List (Nm × Blk)} {id:Nat} {ops:List Oper} {s0:St} {done:List Eff} {gr:List (Nat × PV)} (hsp:z1r P g ps bs [] p) (hg:GOK ops.toArray gd gr ⟨n,tm,hp,up⟩)
 (hev:St.evc ⟨n,tm,hp,up⟩ args=some ps) (hbs:BkE ⟨n,tm,hp,up⟩ bs) (hd:d<n)
 (h:Tr P f R id ops k s0 (done++[⟨gr++rd (args.zip ((St.evs ⟨n,tm,hp,up⟩ args).getD [])),bs,[],[(d,p)],[]⟩]) ⟨n,(d,p)::tm,hp,up⟩ l) :
 Tr P f R id ops k s0 done ⟨n,tm,hp,up⟩ (⟨some d,.call ⟨.value (.func g),args.toArray,ats⟩,ty,pos,aft,gd⟩::l):=by
 obtain⟨h1,h2⟩:=z9f hev
 exact zgc (z1r.pn (by rw[h2];exact hsp)) hg h1 hbs hd h
end
end Go.Ab
