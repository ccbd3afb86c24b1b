/- A part. -/
import Derived.Test.YtonhfccmeammbaaGreatDoorVb
import Derived.WalkSpells
import Derived.Lib.SliceRun
import Derived.Laws.BytesArg
import Derived.ProofKit
import Derived.Sort.Row
import Derived.Sort.Grow
import Derived.Laws.Pointers
import Derived.ArgAppend
import Derived.Below
import Derived.Shelf.GgSortFunc.InsertionK
import Derived.Lib.AppendStr
import Derived.WideKeyRuns
set_option linter.all false
namespace Go.Ab
variable{P:Program}{f:FuncId}{R:z4b}{k:List Item}{all:Array Oper}{o:Oper}{l:List Oper}
variable{n:Nat}{tm:List (Nat × PV)}{hp:Hp}{up:Hf}{d:Nat}{ty:TypeId}{pos:String}{aft:Array Edge}{gd:Option (Nat × Bool)}{op:Op}{p:PV}
abbrev fnD(g:FuncId):D:=.lit (.func (.func g) #[] #[])
def asF:PV→PV
 | .fn g [] []=>.d (.lit (.func g #[] #[]))
 | p=>p
theorem zxu{β:Nm→Value}{w:World}{own:Nat→Prop}{p:PV}{v:Value}(h:PR β w own p v):PR β w own (asF p) v:=by
 unfold asF
 split
 ·cases h with
  | fn _ _ _ fv cv hl hl' hd hd' =>
   have e1:fv=[]:=by simpa using hl.symm
   have e2:cv=[]:=by simpa using hl'.symm
   subst e1;subst e2
   exact .d _ _ (.lit _ rfl)
 ·exact h
theorem zzb{s:St}{β:Nm→Value}{own:Nat→Prop}{a:Act}{w:World}(hr:Rep s β own a w){g:FuncId}{fo:Operand}{args:List Operand}{ps:List PV}{ats:Array TypeId}(hfo:s.ev fo=some (.d (fnD g)))(hev:s.evs args=some ps)(hp:Plain P g)
 {dst:Option Tmp}:∃vals:List Value,(execOp a.eval ⟨dst,.call ⟨.value fo,args.toArray,ats⟩,ty,pos,aft,gd⟩).run P w=.ok (.enter g vals.toArray) w∧z8g β w own ps vals:=by
 obtain⟨fn,hfn,hname,hbody⟩:=hp
 have h:=hr.ev hfo
 have hv:a.eval fo=.func (.func g) #[] #[]:=h.lit
 refine⟨args.map a.eval,?_,hr.evs hev⟩
 exact zD56
theorem zph{i:Nat}{s:St}{g:FuncId}{fo:Operand}{args:List Operand}{ps:List PV}{ats:Array TypeId}(ho:all[i]? =some ⟨some d,.call ⟨.value fo,args.toArray,ats⟩,ty,pos,aft,gd⟩)
 (hw:∀β own a w,Rep s β own a w→Region.wanted ⟨some d,.call ⟨.value fo,args.toArray,ats⟩,ty,pos,aft,gd⟩ (yielded all a.tmps)=true)
 (hfo:s.ev fo=some (.d (fnD g))) (hev:s.evs args=some ps) (hsp:z0q P g ps p) (hd:d<s.n) :
 zpo P f R all k i s (s.app ⟨[],[],[],[(d,p)],[]⟩):=by
 intro is h β own a w hrep b hb hk hn cs
 have hsp:=hsp (push s.hp s.up)
 obtain⟨vals,hrun,hargs⟩:=zzb hrep hfo hev hsp.plain (dst:=some d) (ats:=ats) (ty:=ty) (pos:=pos) (aft:=aft) (gd:=gd)
 obtain⟨e,w',fr,⟨v,r,H,own',rfl,⟨rfl,rfl⟩,hrv,hheap,hext⟩,hsteps,_,hleave⟩:=hsp.run β own w vals hrep.heap hargs (am b a (.inRegion all (i::is)::k)::cs)
 cases hrv with
 | v _ _ hpv =>
  have hr':Rep s β own' a w':=⟨hrep.size,hrep.defers,fun t q hq=>(hrep.tm t q hq).mono hext,hheap⟩
  have hr2:=hr'.put (dst:=some d) (p:=p) (v:=v) (by simp[St.fits,hd]) hpv
  exact((h β own' _ w' hr2 b hb hk hn cs).ext hext).of_steps (zgz ho (hw β own a w hrep) hrun hsteps hleave)
theorem zjv{id:Nat}{ops:List Oper}{s0:St}{done:List Eff}{gr:List (Nat × PV)}{g:FuncId}{fo:Operand}{args:List Operand}{ps:List PV}{ats:Array TypeId}(hg:GOK ops.toArray gd gr ⟨n,tm,hp,up⟩)
 (hfo:St.ev ⟨n,tm,hp,up⟩ fo=some (.d (fnD g))) (hsp:z0q P g ps p) (hev:St.evs ⟨n,tm,hp,up⟩ args=some ps) (hd:d<n)
 (h:Tr P f R id ops k s0 (done++[⟨gr++rd ((fo,.d (fnD g))::args.zip ps),[],[],[(d,p)],[]⟩]) ⟨n,(d,p)::tm,hp,up⟩ l) :
 Tr P f R id ops k s0 done ⟨n,tm,hp,up⟩ (⟨some d,.call ⟨.value fo,args.toArray,ats⟩,ty,pos,aft,gd⟩::l):=by
 obtain⟨hz1,hz2⟩:=z7d hev
 have hz0:Evs ⟨n,tm,hp,up⟩ ((fo,.d (fnD g))::args.zip ps):=⟨hfo,hz1⟩
 refine zdi (e:=⟨gr++rd ((fo,.d (fnD g))::args.zip ps),[],[],[(d,p)],[]⟩) (fun i hi s1 hn hs1=>?_) ⟨fun q hq=>?_,by simp,by simp⟩ rfl h
 ·have h1:Evs s1 ((fo,.d (fnD g))::args.zip ps):=z5n hz0 fun q hq=>hs1.ins q (by simp[hq])
  exact zph hi (fun β own a w hr=>hg.wanted (fun q hq=>hs1.ins q (by simp[hq])) rfl hr) h1.1 (hz2 s1 h1.2) hsp (by rw[hn];exact hd)
 ·exact zD102
theorem zp3{t e:TypeId}{ti te:TI}[ht:z1d P t ti][he:z1d P e te]{len:Nat}{l:List (Nat × Operand)}{qs:List (Nat × List PV)}{cs:List PV}{ds:List D}{xs:List (List D)}(hq:St.parts ⟨n,tm,hp,up⟩ l=some qs)(hok:St.okParts ⟨n,tm,hp,up⟩ l=true)
 (hf:z61 (fun i=>some (i*te.size,te.size)) (z6c te.zero (len*te.size)) qs=some cs) (hm:z8d (cs.map asF)=some ds) (hxs:chunk te.size len ds=xs) (hk:ti.kind=.slice e)
 (hz:z8l te len=true) (hd:d<n) :
 z1z P ⟨some d,.buildSlice t len l.toArray,ty,pos,aft,gd⟩ ⟨n,tm,hp,up⟩ ⟨n,(d,.d (.slice xs))::tm,hp,up⟩ :=
 zb7 rfl hd fun β own a w hr=>by
  simp only[z8l,zA7,beq_iff_eq,bne_iff_ne,zA3]at hz
  obtain⟨⟨⟨z1,z2⟩,z3⟩,z4⟩:=hz
  obtain⟨h1,h2⟩:=hr.parts l qs hq hok
  have hl:(l.toArray.map fun x=>(x.1,a.eval x.2)).toList=l.map fun x=>(x.1,a.eval x.2):=by simp
  obtain⟨vs,hrun,hcr,hvl⟩:=z6u (P:=P) ht he hk z1 z2 z3 z4 (β:=β) (w:=w) (own:=own) (l.toArray.map fun x=>(x.1,a.eval x.2)) qs (by rw[hl];exact h1) (by rw[hl];exact h2) hf
  have hcr':CR β w own (cs.map asF) vs:=⟨by simpa using hcr.1,hcr.2.1,fun j x v hx hv=>by
   rw[zAd]at hx
   cases hc:cs[j]? with
   | none=>rw[hc]at hx;cases hx
   | some c=>rw[hc]at hx;simp at hx;subst hx;exact zxu (hcr.2.2 j c v hc hv)⟩
  replace hcr:=z5x hcr' hm
  exact zD104
theorem zdl{t e:TypeId}{ti te:TI}{lp:List (Nat × Operand)}{ps:List PV}{qs:List (Nat × List PV)}{cs:List PV}{len:Nat}{ds:List D}{ys:List (List D)}[ht:z1d P t ti][he:z1d P e te](hk:ti.kind=.slice e)(hev:St.evs ⟨n,tm,hp,up⟩ (lp.map (·.2))=some ps)(hq:z2x lp ps=some qs)(hn:z55 ps=true)(hf:z61 (fun i=>some (i*te.size,te.size)) (z6c te.zero (len*te.size)) qs=some cs)
 (hm:z8d (cs.map asF)=some ds) (hxs:chunk te.size len ds=ys) (hz:z8l te len=true) (hd:d<n) (h:Ops P f R all l k ⟨n,(d,.d (.slice ys))::tm,hp,up⟩) :
 Op1 P f R all ⟨some d,.buildSlice t len lp.toArray,ty,pos,aft,gd⟩ l k ⟨n,tm,hp,up⟩ :=
 let ⟨h1,h2⟩:=z9l (evE (z5v hev)) hq hn
 z0b (zp3 h1 h2 hf hm hxs hk hz hd) h
end Go.Ab
namespace Go.Ab
variable{P:Program}{f:FuncId}{R:z4b}{k:List Item}{all:Array Oper}{o:Oper}{l:List Oper}
variable{n:Nat}{tm:List (Nat × PV)}{hp:Hp}{up:Hf}{d:Nat}{ty:TypeId}{pos:String}{aft:Array Edge}{gd:Option (Nat × Bool)}{op:Op}{p:PV}
def PV.taker(m:Nm)(y:Nat):PV→PV
 | .ref q=>if q == m then .ref (0,y)else .ref q
 | p=>p
def zh6(m:Nm)(y:Nat):List (Nat × PV)→List (Nat × PV)
 | []=>[]
 | (t,p)::r=>(t,p.taker m y)::zh6 m y r
theorem zcm{m:Nm}{y:Nat}:∀ {tm:List (Nat × PV)} {t:Nat},look (zh6 m y tm) t=(look tm t).map (PV.taker m y)
 | [],t=>rfl
 | (k,p)::r,t=>by
  simp only[zh6,look]
  split
  ·rfl
  ·exact zcm
theorem z50(y md ms:Nat){raw:Blk}(hb:up md ms=some raw)(hl:raw.live=true)(hfr:(z1k y hp&&z1q y tm)=true)
 (h:Run P f R k ⟨n,(100000+y,.al (0,y) (md+1,ms))::zh6 (md+1,ms) y tm,(y,raw.lift (md+1))::hp,upd up (md,ms) .gone⟩):Run P f R k ⟨n,tm,hp,up⟩:=by
 refine Run.step (fun β own a w hr b cs=>⟨z69 β y (β (md+1,ms)),own,a,w,?_,Ext.refl _ _,z3a _ _ _,.refl _ _⟩) h
 have hne:((md+1,ms):Nm)≠(0,y):=by simp
 simp only[zA7]at hfr
 have hlook:z19 (push hp up) (md+1,ms)=some (raw.lift (md+1)):=by simp[z19,push,hb]
 have hl':(raw.lift (md+1)).live=true:=by rw[Blk.lift_live];exact hl
 have hr0:HR (push hp (upd up (md,ms) .gone)) β own w:=by rw[z6l];exact hr.heap.drop (md+1,ms)
 have key:∀m c,z19 (push hp (upd up (md,ms) .gone)) m=some c→c.live=true→m≠(md+1,ms)∧z19 (push hp up) m=some c:=by
  exact zD81
 refine⟨hr.size,hr.defers,fun t p hp'=>?_,?_⟩
 ·simp only[look]at hp'
  split at hp'
  ·simp at hp';subst hp'
   exact .al _ _ (by rw[z2d,z3h _ _ _ _ hne]) _
  ·rw[zcm]at hp'
   cases hq:look tm t with
   | none=>rw[hq]at hp';cases hp'
   | some q =>
    rw[hq]at hp';simp at hp';subst hp'
    have h1:=hr.tm t q hq
    have h2:=h1.reβ (β':=z69 β y (β (md+1,ms))) (0,y) (z3h β y _) (z7z hfr.2 hq)
    generalize a.tmps.getD t undef=v at h1 h2
    cases q with
    | ref q =>
     simp only[PV.taker]
     split
     ·rename_i e;simp at e;subst e
      cases h1 with|ref _=>have:=PR.ref (β:=z69 β y (β (md+1,ms))) (w:=w) (own:=own) (0,y);rw[z2d]at this;exact this
     ·exact h2
    | _=>exact h2
 ·exact zD39
theorem z14{H:Hf}{m:Nm}{b c:Blk}{d s:Nat}(h:H d s=some c)(hne:¬(d=m.1∧s=m.2)):upd H m b d s=some c:=by
 simp only[upd];rw[zAy hne];exact h
end Go.Ab
namespace Go.Ab
variable{P:Program}{ty tx ty':TypeId}{x y z:Operand}{k k2:IntKind}{a b:Int}
def zva(k:IntKind)(a b:Int):Int:=k.wrap (a*2 ^ (min b.toNat k.bits))
def zua(k:IntKind)(a b:Int):Int:=a.fdiv (2 ^ (min b.toNat k.bits))
def zqe(k:IntKind)(a b:Int):Int:=k.wrap ((BitVec.ofInt k.bits a &&& BitVec.ofInt k.bits b).toNat:Int)
def orV(k:IntKind)(a b:Int):Int:=k.wrap ((BitVec.ofInt k.bits a ||| BitVec.ofInt k.bits b).toNat:Int)
theorem zvd(h0:0≤b):Val P (.binOp .shl tx x y ty') ty [(x,I k a),(y,I k2 b)] [] (I k (zva k a b)):=fun d pos aft gd n tm hp up hd hx _ =>
 z6w hx.1 hx.2.1 hd rfl fun w=>by
  have h:¬b<0:=by omega
  simp[eqGuard,binOp,Op.shift,h,zva]
theorem zgs(h0:0≤b):Val P (.binOp .shr tx x y ty') ty [(x,I k a),(y,I k2 b)] [] (I k (zua k a b)):=fun d pos aft gd n tm hp up hd hx _ =>
 z6w hx.1 hx.2.1 hd rfl fun w=>by
  have h:¬b<0:=by omega
  simp[eqGuard,binOp,Op.shift,h,zua]
theorem z8s:Val P (.binOp .and tx x y ty') ty [(x,I k a),(y,I k b)] [] (I k (zqe k a b)):=fun d pos aft gd n tm hp up hd hx _ =>
 z6w hx.1 hx.2.1 hd rfl fun w=>by simp[eqGuard,binOp,Op.intBits,zqe]
theorem zb2:Val P (.binOp .or tx x y ty') ty [(x,I k a),(y,I k b)] [] (I k (orV k a b)):=fun d pos aft gd n tm hp up hd hx _ =>
 z6w hx.1 hx.2.1 hd rfl fun w=>by simp[eqGuard,binOp,Op.intBits,orV]
theorem zqq(h0:0≤a)(h1:b.toNat≤k.bits):zua k a b=a / 2 ^ b.toNat:=by
 rw[zua,Nat.min_eq_left h1,Int.fdiv_eq_ediv_of_nonneg _ (Int.pow_nonneg (by omega))]
theorem y3a{x:Int}(h1:0≤x)(h2:x<18446744073709551616):IntKind.u64.wrap x=x:=by
 simp only[IntKind.wrap,IntKind.bits,IntKind.signed]
 simp
 omega
theorem y23{P:Program}{f:FuncId}{R:z4b}{k:List Item}{all:Array Oper}{l:List Oper}{n:Nat}{tm:List (Nat × PV)}{hp:Hp}{up:Hf}{d:Nat}{ty:TypeId}{pos:String}{aft:Array Edge}{gd:Option (Nat × Bool)}{p:PV}
 {g:FuncId} {args:List Operand} {ps:List PV} {ats:Array TypeId} {ms:Nat} {b b':Blk} {bs:List (Nm × Blk)} (hsp:z1v P g ps (((0,ms),b)::bs) [((0,ms),b')] p) (hev:St.evs ⟨n,tm,hp,up⟩ args=some ps) (hb:look hp ms=some b) (hbs:BkE ⟨n,tm,hp,up⟩ bs) (hd:d<n)
 (h:Ops P f R all l k ⟨n,(d,p)::tm,(ms,b')::hp,up⟩):Op1 P f R all ⟨some d,.call ⟨.value (.func g),args.toArray,ats⟩,ty,pos,aft,gd⟩ l k ⟨n,tm,hp,up⟩ :=
 zj7 hsp hev (by simp only[BkE,List.map_cons,List.cons.injEq];exact⟨hb,hbs⟩) hd rfl h
end Go.Ab
namespace Go.Ab
variable{P:Program}{ty tx ty':TypeId}{x y z:Operand}{k k2:IntKind}{a b:Int}
theorem zxo{e:TypeId}{ti:TI}[ht:z1d P tx ti]{xs:List (List D)}(hk:ti.kind=.slice e)(hne:xs≠[]):Val P (.binOp .eql tx x y ty') ty [(x,.d (.slice xs)),(y,.d (.lit z1t))] [] (B false):=fun d pos aft gd n tm hp up hd hx _ =>
 z1c rfl hd fun β own ac w hrp=>by
  have h1:=hrp.ev hx.1
  have h2:=(hrp.ev hx.2.1).lit
  generalize hv:ac.eval x=v at h1
  cases h1 with
  | d _ _ h1 =>
   cases h1 with
   | nil a cap=>exact absurd rfl hne
   | slice _ g o cap k c =>
    refine⟨.bool false,?_,PR.B _⟩
    simp only[execOp,h2,hv]
    rw[Sem.run_bind]
    have:(eqGuard .eql tx x y (.slice (some ⟨g,o,none⟩) xs.length cap) z1t).run P w=.ok () w:=by simp[eqGuard,z1t]
    have key:(binOp .eql tx (.slice (some ⟨g,o,none⟩) xs.length cap) z1t).run P w=_:=Lib.run_eql_slice_nil w tx e (some ⟨g,o,none⟩) xs.length cap 0 0 (ht.slice hk)
    simp only[Sem.run_bind,this]
    show(Sem.run P (binOp .eql tx (.slice (some ⟨g,o,none⟩) xs.length cap) z1t) w).andThen _=_
    rw[key];rfl
end Go.Ab
namespace Go.Ab
section
variable{ops:List Oper}{es:List Eff}{s:St}{P:Program}{f:FuncId}{R:z4b}{k:List Item}
theorem zmz{L:List Nat}{m:Nat}(h:Lin ops L)(hm:∀i∈L,i<m):Lin (ops.take m) L:=by
 induction h with
 | nil=>exact .nil
 | snoc L i o h hn ho hr ih =>
  exact .snoc L i o (ih fun j hj=>hm j (by simp[hj])) hn (by rw[List.getElem?_take,zAz (hm i (by simp))];exact ho) hr
theorem zdg{L:List Nat}(h:Lin ops L):L.Nodup:=by
 induction h with
 | nil=>simp
 | snoc L i o h hn ho hr ih=>rw[List.nodup_append];exact⟨ih,by simp,fun a ha b hb=>by simp at hb;subst hb;exact fun e=>hn (e▸ha)⟩
def zj0(ms:List Nat)(m n:Nat):Bool:=(List.range n).all fun j=>decide (j<m)||(List.range j).all fun i=>(ms.getD j 0).testBit i
theorem zer{ms:List Nat}{m n:Nat}(h:zj0 ms m n=true){j i:Nat}(hj:m≤j)(hn:j<n)(hi:i<j):(ms.getD j 0).testBit i=true:=by
 simp only[zj0,List.all_eq_true,List.mem_range,zAu,zA3]at h
 rcases h j hn with h|h
 ·omega
 ·exact h i hi
theorem y0e(hback:zcd ops 0=true){m:Nat}(htail:zj0 (zev [] ops) m ops.length=true):∀(fuel tt:Nat) (listed:Array Bool) (L:List Nat) (m':Nat),m≤m'→m'≤ops.length→(∀i,listed.getD i false=true↔i∈L)→listed.size=ops.length→Lin ops L→(∀i,i∈L↔i<m')→ops.length≤fuel+m' →
 (Region.linearise.go .any ops.toArray fuel tt listed []).map (fun i=>ops.toArray[i]?)=(ops.drop m').map some:=by
 intro fuel
 induction fuel with
 | zero =>
  intro tt listed L m' h1 h2 hlist hsz hL hm hle
  have:m'=ops.length:=by omega
  subst this
  simp[Region.linearise.go]
 | succ fuel ih =>
  intro tt listed L m' h1 h2 hlist hsz hL hm hle
  simp only[Region.linearise.go]
  change (match(Region.ready .any ops.toArray listed)[tt % (Region.ready .any ops.toArray listed).length]? with
   | some i=>Region.linearise.go .any ops.toArray fuel (tt / (Region.ready .any ops.toArray listed).length) (listed.setIfInBounds i true) [i]
   | none=>[].reverse).map (fun i=>ops.toArray[i]?)=_
  cases hi:(Region.ready .any ops.toArray listed)[tt % (Region.ready .any ops.toArray listed).length]? with
  | none =>
   have hnil:Region.ready .any ops.toArray listed=[]:=by
    exact zD30
   have hall:=z8y hback hlist hsz hnil
   have:m'=ops.length:=by
    apply Classical.byContradiction
    intro hne
    have:=(hm m').1 (hall m' (by omega))
    omega
   subst this
   simp
  | some i =>
   have hmem:i∈Region.ready .any ops.toArray listed:=zA2 hi
   obtain⟨hun,o,ho,hedges⟩:=mem_ready.1 hmem
   have ho':ops[i]? =some o:=by simpa using ho
   have hilt:i<ops.length:=(zA1.1 ho').1
   have hnL:i∉L:=fun hx=>by
    exact zD51
   have hL':Lin ops (L++[i]):=.snoc L i o hL hnL ho' fun e he hb=>(hlist _).1 (hedges e (by simpa using he) hb)
   have him:i=m':=by
    have h3:¬i<m':=fun h=>hnL ((hm i).2 h)
    apply Classical.byContradiction
    intro hne
    have hbit:=zer htail (j:=i) (i:=m') (by omega) hilt (by omega)
    have:=z83 ops ops [] [] rfl rfl (by simp) i m' hbit L hL'
    have:=(hm m').1 this
    omega
   subst him
   simp only[]
   rw[linearise_go_acc,List.reverse_singleton,List.singleton_append,List.map_cons]
   have hd:ops.drop i=o::ops.drop (i+1):=by
    rw[zA1]at ho'
    rw[List.drop_eq_getElem_cons hilt,ho'.2]
   rw[hd,List.map_cons,ho]
   congr 1
   refine ih _ _ (L++[i]) (i+1) (by omega) (by omega) (fun j=>?_) (by simpa using hsz) hL' (fun j=>?_) (by omega)
   ·exact zD65
   ·rw[zAt,hm];simp;omega
theorem zv9{m:Nat}(hes:es.length=m)(hmo:m≤ops.length)(hchk:z6b (ops.take m) s es=true)(hback:zcd ops 0=true)(htail:zj0 (zev [] ops) m ops.length=true){t:St}(htext:Text s es t)
 (hloc:∀i e,es[i]? =some e→Loc P f R ops.toArray k s.n i e) (h:Ops P f R ops.toArray (ops.drop m) k t) :
 ∀(fuel tt:Nat) (listed:Array Bool) (L:List Nat),(∀i,listed.getD i false=true↔i∈L)→listed.size=ops.length→Lin ops L→(∀i∈L,i<m)→ops.length≤fuel+L.length →
  Run P f R (.inRegion ops.toArray (Region.linearise.go .any ops.toArray fuel tt listed [])::k) (after es s L):=by
 -- all of the first part done
 have done:∀(fuel tt:Nat) (listed:Array Bool) (L:List Nat),(∀i,listed.getD i false=true↔i∈L)→listed.size=ops.length→Lin ops L→(∀i,i∈L↔i<m)→ops.length≤fuel+m →
  Run P f R (.inRegion ops.toArray (Region.linearise.go .any ops.toArray fuel tt listed [])::k) (after es s L):=by
  intro fuel tt listed L hlist hsz hL hall hle
  have hg:=y0e hback htail fuel tt listed L m (zAj _) hmo hlist hsz hL hall hle
  have hr:=h _ hg
  obtain⟨h1,h2⟩:=zma hchk (zmz hL fun i hi=>(hall i).1 hi) fun i hi=>(hall i).2 (by omega)
  rw[←htext.state.1]at h1 h2
  refine Run.same_view (s:=t) ?_ h1 h2 ?_ hr
  ·rw[htext.state.1,zbs,zbs]
  ·rw[y4c,y4c t];funext d x;exact h2 _
 intro fuel
 induction fuel with
 | zero =>
  intro tt listed L hlist hsz hL hlm hle
  have hlen:=nodup_lt_length m L (zdg hL) hlm
  refine done 0 tt listed L hlist hsz hL (fun i=>⟨hlm i,fun hi=>?_⟩) (by omega)
  apply Classical.byContradiction
  intro hn
  have:=nodup_lt_length m (i::L) (List.nodup_cons.2 ⟨hn,zdg hL⟩) (fun x hx=>by
   simp at hx
   rcases hx with rfl|hx
   ·exact hi
   ·exact hlm x hx)
  simp at this
  omega
 | succ fuel ih =>
  intro tt listed L hlist hsz hL hlm hle
  by_cases hfull:∀i,i<m→i∈L
  ·have hlen:m≤L.length:=by
    have:=nodup_lt_length m (List.range m) List.nodup_range (by simp)
    have h2:∀(A B:List Nat),A.Nodup→(∀x∈A,x∈B)→A.length≤B.length:=by
     intro A
     induction A with
     | nil=>intro B _ _;simp
     | cons a A ihA =>
      intro B hnd hsub
      obtain⟨ha,hnd'⟩:=List.nodup_cons.1 hnd
      have haB:=hsub a (by simp)
      have:=ihA (B.erase a) hnd' fun x hx=>by
       have:x≠a:=fun e=>ha (e▸hx)
       exact(List.mem_erase_of_ne this).2 (hsub x (by simp[hx]))
      rw[List.length_erase_of_mem haB]at this
      have hpos:0<B.length:=List.length_pos_of_mem haB
      simp;omega
    have:=h2 (List.range m) L List.nodup_range fun x hx=>hfull x (by simpa using hx)
    simpa using this
   have hlen2:=nodup_lt_length m L (zdg hL) hlm
   exact done (fuel+1) tt listed L hlist hsz hL (fun i=>⟨hlm i,hfull i⟩) (by omega)
  ·simp only[Region.linearise.go]
   change Run P f R (.inRegion ops.toArray (match(Region.ready .any ops.toArray listed)[tt % (Region.ready .any ops.toArray listed).length]? with
    | some i=>Region.linearise.go .any ops.toArray fuel (tt / (Region.ready .any ops.toArray listed).length) (listed.setIfInBounds i true) [i]
    | none=>[].reverse)::k) (after es s L)
   cases hi:(Region.ready .any ops.toArray listed)[tt % (Region.ready .any ops.toArray listed).length]? with
   | none =>
    exfalso
    have hnil:Region.ready .any ops.toArray listed=[]:=by
     exact zD30
    exact hfull fun i hi=>z8y hback hlist hsz hnil i (by omega)
   | some i =>
    have hmem:i∈Region.ready .any ops.toArray listed:=zA2 hi
    obtain⟨hun,o,ho,hedges⟩:=mem_ready.1 hmem
    have ho':ops[i]? =some o:=by simpa using ho
    have hilt:i<ops.length:=(zA1.1 ho').1
    have hnL:i∉L:=fun hx=>by
     exact zD51
    have hL':Lin ops (L++[i]):=.snoc L i o hL hnL ho' fun e he hb=>(hlist _).1 (hedges e (by simpa using he) hb)
    have him:i<m:=by
     apply Classical.byContradiction
     intro hge
     refine hfull fun j hj=>?_
     have hbit:=zer htail (j:=i) (i:=j) (by omega) hilt (by omega)
     exact z83 ops ops [] [] rfl rfl (by simp) i j hbit L hL'
    have hLm':∀j∈L++[i],j<m:=fun j hj=>by
     simp at hj
     rcases hj with hj|rfl
     ·exact hlm j hj
     ·exact him
    simp only[]
    rw[linearise_go_acc,List.reverse_singleton,List.singleton_append]
    have hag:=zg3 hchk htext (zmz hL' hLm')
    refine hloc i _ (getD_eq (by omega)) (after es s L) (zbs es L s) hag _ ?_
    rw[←z4e]
    refine ih _ _ (L++[i]) (fun j=>?_) (by simpa using hsz) hL' hLm' (by simp;omega)
    exact zD65
def zrp(ops:List Oper)(s:St)(es:List Eff):Bool:=decide (es.length≤ops.length)&&z6b (ops.take es.length) s es&&zcd ops 0&&zj0 (zev [] ops) es.length ops.length
theorem zyv{id:Nat}(hmix:P.follows .mixedOrders=true)(hchk:zrp ops s es=true){t:St}(htext:Text s es t)(hloc:∀i e,es[i]? =some e→Loc P f R ops.toArray k s.n i e)(h:Ops P f R ops.toArray (ops.drop es.length) k t) :
 Run P f R (.code (.region id ops.toArray true)::k) s:=by
 simp only[zrp,zA7,zA3]at hchk
 obtain⟨⟨⟨h1,h2⟩,h3⟩,h4⟩:=hchk
 intro β own a w hrep b hb hk hn cs
 have hlen:(Array.replicate ops.toArray.size false).size=ops.length:=by simp
 have key:=zv9 rfl h1 h2 h3 h4 htext hloc h ops.toArray.size (w.tape w.drawn (.order b.fn id)) (Array.replicate ops.toArray.size false) [] (fun i=>by simp[Array.getElem?_replicate];split <;> simp) hlen .nil (by simp) (by simp)
 exact zD31
variable{id:Nat}{s0:St}{done:List Eff}{l:List Oper}
theorem zbb(hmix:P.follows .mixedOrders=true)(hchk:zrp ops s0 done=true)(h:Ops P f R ops.toArray l k s):Tr P f R id ops k s0 done s l :=
 fun⟨pre,hops,hlen⟩ hloc htext _=>zyv hmix hchk htext hloc (by rw[hops,←hlen,List.drop_left,←hops];exact h)
end
end Go.Ab
namespace Go.Ab
variable{P:Program}{f:FuncId}{R:z4b}{k:List Item}{all:Array Oper}{o:Oper}{l:List Oper}
variable{n:Nat}{tm:List (Nat × PV)}{hp:Hp}{up:Hf}{d:Nat}{ty:TypeId}{pos:String}{aft:Array Edge}{gd:Option (Nat × Bool)}{op:Op}{p:PV}
variable{k':List Item}{s s':St}
theorem Run.stepV (h:∀β own a w,Rep s β own a w→∀(b:Frame) cs,∃β' own' a' w',Rep s' β' own' a' w'∧Ext w own w' own'∧(∀n,¬R.vol n→z71 β' n=z71 β n) ∧
  Steps P (lone (am b a k) cs w) (lone (am b a' k') cs w')) (hr:Run P f R k' s'):Run P f R k s:=by
 intro β own a w hrep b hb hk hn cs
 obtain⟨β',own',a',w',hrep',hext,ho,hst⟩:=h β own a w hrep b cs
 refine(((hr β' own' a' w' hrep' b hb hk ?_ cs).same ho).ext hext).of_steps hst
 unfold zbf at hn⊢
 cases hm:R.rnd with
 | none=>rw[hm]at hn;exact hn
 | some m =>
  rw[hm]at hn
  obtain⟨hv,L,h1,h2⟩:=hn
  exact⟨hv,L,h1,(ho m hv).trans h2⟩
def PV.alias(a b:Nm):PV→PV
 | .ref q=>if q == b then .ref a else .ref q
 | p=>p
def zaz(a b:Nm):List PV→List PV
 | []=>[]
 | p::r=>p.alias a b::zaz a b r
def Blk.alias(a b:Nm):Blk→Blk
 | .box cs=>.box (zaz a b cs)
 | .rowp e cs=>.rowp e (zaz a b cs)
 | q=>q
def z48(a b:Nm):Hp→Hp
 | []=>[]
 | (t,q)::r=>(t,q.alias a b)::z48 a b r
theorem zbp(a b:Nm):∀(cs:List PV) (j:Nat),(zaz a b cs)[j]? =(cs[j]?).map (PV.alias a b)
 | [],j=>by simp[zaz]
 | p::r,0=>by simp[zaz]
 | p::r,j+1=>by simp[zaz,zbp a b r j]
theorem zbz(a b:Nm):∀cs:List PV,(zaz a b cs).length=cs.length
 | []=>rfl
 | p::r=>by simp[zaz,zbz a b r]
theorem z7f{a b:Nm}:∀ {hp:Hp} {t:Nat},look (z48 a b hp) t=(look hp t).map (Blk.alias a b)
 | [],t=>rfl
 | (k,p)::r,t=>by
  simp only[z48,look]
  split
  ·rfl
  ·exact z7f
theorem PR.alias{β:Nm→Value}{w:World}{own:Nat→Prop}{a b:Nm}(hab:β a=β b){p:PV}{v:Value}(h:PR β w own p v):PR β w own (p.alias a b) v:=by
 cases h with
 | ref q =>
  simp only[PV.alias]
  split
  ·rename_i e;simp at e;subst e;rw[←hab];exact .ref _
  ·exact .ref _
 | any=>exact .any _
 | d _ _ h=>exact .d _ _ h
 | ptr m off g h=>exact .ptr m off g h
 | eptr cs g o c h1 h2 h3 h4=>exact .eptr cs g o c h1 h2 h3 h4
 | rptr m k i off g len cap h=>exact .rptr m k i off g len cap h
 | rsub m k lo len L cap a h h1 h2=>exact .rsub m k lo len L cap a h h1 h2
 | al m m' h v=>exact .al m m' h v
 | agg cs vs h1 h2 h3=>exact .agg cs vs h1 h2 h3
 | tup cs vs h1 h2=>exact .tup cs vs h1 h2
 | fn f a b c d e g h i=>exact .fn f a b c d e g h i
 | yl m L h=>exact .yl m L h
 | full xs a h=>exact .full xs a h
theorem BR.alias{β:Nm→Value}{w:World}{own:Nat→Prop}{a b:Nm}(hab:β a=β b){v:Value}{q:Blk}(h:BR β w own v q):BR β w own v (q.alias a b):=by
 cases h with
 | box g t cs cur ho hg hl h1 hd =>
  refine .box g t _ cur ho hg (by rw[zbz];exact hl) h1 fun j x u hx hu=>?_
  exact zD89
 | row v e k xs vs ho hk hr hd=>exact .row v e k xs vs ho hk hr hd
 | rowp v e cs vs ho hr h1 hd =>
  refine .rowp v e _ vs ho (by rw[zbz];exact hr) h1 fun j x u hx hu=>?_
  exact zD89
 | siter g s pos ho hg=>exact .siter g s pos ho hg
 | gmap g cur clock ho hg=>exact .gmap g cur clock ho hg
 | mit h g since seen last ho hg=>exact .mit h g since seen last ho hg
 | glob g o ho hg hd=>exact .glob g o ho hg hd
 | mp g clock es cur ho hg hl hd hb hc=>exact .mp g clock es cur ho hg hl hd hb hc
 | lp g n' f ps asg body st state pending tmps df ho hg hl hd=>exact .lp g n' f ps asg body st state pending tmps df ho hg hl hd
 | gone v=>exact .gone v
theorem Blk.alias_live(a b:Nm)(q:Blk):(q.alias a b).live=q.live:=by cases q <;> rfl
theorem HR.alias{β:Nm→Value}{own:Nat→Prop}{w:World}{a b:Nm}(hab:β a=β b)(h:HR (push hp up) β own w):HR (push (z48 a b hp) up) β own w:=by
 have key:∀m c,z19 (push (z48 a b hp) up) m=some c→(m.1=0∧∃q,z19 (push hp up) m=some q∧c=q.alias a b)∨z19 (push hp up) m=some c:=by
  rintro⟨e,t⟩ c hc
  cases e with
  | zero =>
   left
   have hc':look (z48 a b hp) t=some c:=hc
   rw[z7f]at hc'
   cases hq:look hp t with
   | none=>rw[hq]at hc';cases hc'
   | some q=>rw[hq]at hc';simp at hc';exact⟨rfl,q,hq,hc'.symm⟩
  | succ e=>right;exact hc
 refine⟨fun m c hc=>?_,fun m1 m2 c1 c2 h1 h2 l1 l2 hne=>?_,h.lt⟩
 ·rcases key m c hc with⟨_,q,hq,rfl⟩|hq
  ·exact(h.blk m q hq).alias hab
  ·exact h.blk m c hq
 ·have g:∀m c,z19 (push (z48 a b hp) up) m=some c→c.live=true→∃q,z19 (push hp up) m=some q∧q.live=true:=by
   intro m c hc hl
   rcases key m c hc with⟨_,q,hq,rfl⟩|hq
   ·exact⟨q,hq,by rwa [Blk.alias_live]at hl⟩
   ·exact⟨c,hq,hl⟩
  obtain⟨q1,e1,f1⟩:=g m1 c1 h1 l1
  obtain⟨q2,e2,f2⟩:=g m2 c2 h2 l2
  exact h.inj m1 m2 q1 q2 e1 e2 f1 f2 hne
theorem z4z(t:Nat){a b:Nm}(hal:look tm t=some (.al a b))(h:Run P f R k ⟨n,tm,z48 a b hp,up⟩):Run P f R k ⟨n,tm,hp,up⟩:=by
 refine Run.le (s:=⟨n,tm,z48 a b hp,up⟩) (fun β own ac w hr=>⟨β,rfl,hr.size,hr.defers,hr.tm,?_⟩) h
 have hab:β a=β b:=by
  have:=hr.tm _ _ hal
  generalize ac.tmps.getD t undef=v at this
  cases this with|al _ _ h _=>exact h
 exact hr.heap.alias hab
def z7y(m:Nm):List (Nat × PV)→List (Nat × PV)
 | []=>[]
 | (t,p)::r=>(t,if p.says m then .any else p)::z7y m r
theorem z6r{m:Nm}:∀ {tm:List (Nat × PV)} {t:Nat},look (z7y m tm) t=(look tm t).map fun p=>if p.says m then .any else p
 | [],t=>rfl
 | (k,p)::r,t=>by
  simp only[z7y,look]
  split
  ·rfl
  ·exact z6r
theorem PR.drop{β β':Nm→Value}{w:World}{own:Nat→Prop}{m:Nm}(hb:∀q,q≠m→β' q=β q){p:PV}{v:Value}(h:PR β w own p v):PR β' w own (if p.says m then .any else p) v:=by
 split
 ·exact .any _
 ·rename_i hs
  exact h.reβ m hb (by simpa using hs)
def z3u(m:Nm):Hp→Bool
 | []=>true
 | (_,b)::r=>!b.says m&&z3u m r
theorem z4o{m:Nm}:∀ {hp:Hp} {t:Nat} {b:Blk},z3u m hp=true→look hp t=some b→b.says m=false
 | [],t,b,_,h=>by simp[look]at h
 | (k,c)::r,t,b,hf,h=>by
  simp only[z3u,zA7,zA6]at hf
  simp only[look]at h
  split at h
  ·simp at h;subst h;exact hf.1
  ·exact z4o hf.2 h
def Quiet(H:Hf)(ms:Nat):Prop:=∀s b,H 0 s=some b→b.says (0,ms)=false
theorem zbx(m:Nm)(d s:Nat):((m.1+1,m.2) == ((d+1,s):Nm))=(m == (d,s)):=by
 obtain⟨a,b⟩:=m
 rw[Bool.eq_iff_iff]
 simp
mutual
theorem PV.lift_says1(d s:Nat):∀p:PV,(p.lift 1).says (d+1,s)=p.says (d,s)
 | .ptr m off=>by simp only[PV.lift,PV.says,zbx]
 | .ref m=>by simp only[PV.lift,PV.says,zbx]
 | .rptr m _ _ _=>by simp only[PV.lift,PV.says,zbx]
 | .rsub m _ _ _=>by simp only[PV.lift,PV.says,zbx]
 | .al a b=>by simp only[PV.lift,PV.says,zbx]
 | .agg cs=>by simp only[PV.lift,PV.says];exact PV.liftL_says1 d s cs
 | .tup vs=>by simp only[PV.lift,PV.says];exact PV.liftL_says1 d s vs
 | .fn f a b=>by simp only[PV.lift,PV.says];rw[PV.liftL_says1 d s a,PV.liftL_says1 d s b]
 | .yl m=>by simp only[PV.lift,PV.says,zbx]
 | .full _=>rfl
 | .any=>rfl
 | .d _=>rfl
 | .eptr _=>rfl
theorem PV.liftL_says1(d s:Nat):∀ps:List PV,PV.saysL (d+1,s) (PV.liftL 1 ps)=PV.saysL (d,s) ps
 | []=>rfl
 | p::ps=>by simp only[PV.liftL,PV.saysL];rw[PV.lift_says1 d s p,PV.liftL_says1 d s ps]
end
theorem zcp(d s:Nat):∀st:List (Nat × PV),z42 (d+1,s) (z3j 1 st)=z42 (d,s) st
 | []=>rfl
 | (t,p)::r=>by simp only[z3j,z42];rw[PV.lift_says1 d s p,zcp d s r]
theorem Blk.lift_says1(d s:Nat)(b:Blk):(b.lift 1).says (d+1,s)=b.says (d,s):=by
 cases b with
 | box cs=>exact PV.liftL_says1 d s cs
 | rowp _ cs=>exact PV.liftL_says1 d s cs
 | lp _ _ _ _ _ st _ _=>exact zcp d s st
 | _=>rfl
theorem Blk.lift_comp(d:Nat)(b:Blk):b.lift (d+1)=(b.lift d).lift 1:=(Blk.lift_lift d b).symm
theorem Blk.lift_says0(d t s:Nat)(b:Blk):(b.lift (d+t+1)).says (t,s)=false:=by
 induction t generalizing d with
 | zero=>exact Blk.lift_says s d b
 | succ t ih=>rw[show d+(t+1)+1=(d+t+1)+1 by omega,Blk.lift_comp,Blk.lift_says1];exact ih d
theorem z3x(y ms:Nat){e kk:Nat}{xs:List (List D)}(hb:look hp y=some (.row e kk xs))(hg:up 0 ms=some .gone)(hvol:R.vol (0,ms))(hq:z3u (1,ms) hp=true)(hup:Quiet up ms)
 (h:Run P f R k ⟨n,z7y (1,ms) tm,(y,.gone)::z48 (1,ms) (0,y) hp,upd up (0,ms) (.row e kk xs)⟩):Run P f R k ⟨n,tm,hp,up⟩:=by
 refine Run.stepV (s:=⟨n,tm,hp,up⟩) (s':=⟨n,z7y (1,ms) tm,(y,.gone)::z48 (1,ms) (0,y) hp,upd up (0,ms) (.row e kk xs)⟩) (fun β own a w hr b' fs=>?_) h
 let β':Nm→Value:=fun m=>if m=(1,ms)then β (0,y)else β m
 have hne:∀m,m≠(1,ms)→β' m=β m:=fun m hm=>by simp[β',hm]
 have hsame:β' (1,ms)=β' (0,y):=by simp[β']
 have hy:β' (0,y)=β (0,y):=hne _ (by simp)
 -- the blocks as before, said by β'
 have hold:∀m c,z19 (push hp up) m=some c→c.says (1,ms)=false:=by
  rintro⟨dd,t⟩ c hc
  match dd,hc with
  | 0,hc=>exact z4o hq hc
  | 1,hc =>
   simp only[z19,push]at hc
   cases hu:up 0 t with
   | none=>rw[hu]at hc;cases hc
   | some q=>rw[hu]at hc;simp at hc;subst hc;rw[Blk.lift_says1];exact hup t q hu
  | dd+2,hc =>
   simp only[z19,push]at hc
   cases hu:up (dd+1) t with
   | none=>rw[hu]at hc;cases hc
   | some q=>rw[hu]at hc;simp at hc;subst hc;exact Blk.lift_says0 dd 1 ms q
 have h1:HR (push hp up) β' own w:=by
  refine⟨fun m c hc=>?_,fun m1 m2 c1 c2 e1 e2 l1 l2 hn=>?_,hr.heap.lt⟩
  ·by_cases hm:m=(1,ms)
   ·subst hm
    have hc2:z19 (push hp up) (1,ms)=some .gone:=by simp[z19,push,hg,Blk.lift]
    rw[hc2]at hc;simp at hc;subst hc;exact .gone _
   ·rw[hne m hm];exact(hr.heap.blk m c hc).reβ (1,ms) hne (hold m c hc)
  ·have hg1:∀m c,z19 (push hp up) m=some c→c.live=true→m≠(1,ms):=by
    rintro m c hc hl rfl
    have hc2:z19 (push hp up) (1,ms)=some .gone:=by simp[z19,push,hg,Blk.lift]
    rw[hc2]at hc;simp at hc;subst hc;cases hl
   rw[hne m1 (hg1 m1 c1 e1 l1),hne m2 (hg1 m2 c2 e2 l2)]
   exact hr.heap.inj m1 m2 c1 c2 e1 e2 l1 l2 hn
 have h2:=h1.alias (hp:=hp) hsame
 refine⟨β',own,a,w,⟨hr.size,hr.defers,fun t p hp'=>?_,?_⟩,Ext.refl _ _,fun m hm=>?_,.refl _ _⟩
 ·exact zD79
 · -- the row moves from the own name to the caller's
   have hrow:z19 (push (z48 (1,ms) (0,y) hp) up) (0,y)=some (.row e kk xs):=by
    show look (z48 (1,ms) (0,y) hp) y=_
    rw[z7f,hb];rfl
   have key:∀m c,z19 (push ((y,.gone)::z48 (1,ms) (0,y) hp) (upd up (0,ms) (.row e kk xs))) m=some c→c.live=true→(m=(1,ms)∧c=.row e kk xs)∨(m≠(1,ms)∧m≠(0,y)∧z19 (push (z48 (1,ms) (0,y) hp) up) m=some c):=by
    intro m c hm hc
    rw[z2t]at hm
    by_cases e1:m=(0,y)
    ·rw[zAz e1]at hm;simp at hm;subst hm;cases hc
    ·rw[zAy e1,z6l,z3q]at hm
     by_cases e2:m=(1,ms)
     ·rw[zAz e2]at hm;simp[atF,Blk.lift]at hm;exact .inl ⟨e2,hm.symm⟩
     ·rw[zAy e2]at hm;exact .inr ⟨e2,e1,hm⟩
   exact zD12
 ·refine hne _ fun e=>hm ?_
  simp only[Prod.mk.injEq]at e
  have:m=(0,ms):=Prod.ext (by omega) e.2
  subst this
  exact hvol
def ztp(H:Hf)(bs:List (Nm × Blk))(ms:Nat):Prop:=∀s b,(∀q∈bs,q.1≠(0,s))→H 0 s=some b→b.says (0,ms)=false
def z5c(P:Program)(g:FuncId)(args:List PV)(bs hs:List (Nm × Blk))(p:PV)(ms:Nat):Prop :=
 ∀H:Hf,(∀q∈bs,H q.1.1 q.1.2=some q.2)→ztp H bs ms→z9r P g args H ⟨fun r H'=>r=.v p∧H'=zf9 H hs,fun n=>n=(0,ms),none⟩
end Go.Ab
namespace Go.Ab
end Go.Ab
namespace Go.Ab
variable{P:Program}{f:FuncId}{R:z4b}{k:List Item}{all:Array Oper}{l:List Oper}
variable{n:Nat}{tm:List (Nat × PV)}{hp:Hp}{up:Hf}{d:Nat}{ty:TypeId}{pos:String}{aft:Array Edge}{gd:Option (Nat × Bool)}{p:PV}
end Go.Ab
namespace Go.Ab
variable{P:Program}{f:FuncId}{R:z4b}{k:List Item}{all:Array Oper}{l:List Oper}
variable{n:Nat}{tm:List (Nat × PV)}{hp:Hp}{up:Hf}
theorem zjc(a b:Nat){q:Blk}(hb:look hp a=some q)(hab:(!(a == b)&&!q.says (0,b))=true)(h:Ops P f R all l k ⟨n,zc6 a b tm,(b,q)::(a,.gone)::zdk a b hp,up⟩):Ops P f R all l k ⟨n,tm,hp,up⟩ :=
 fun is his=>z4n a b hb hab (h is his)
theorem zfn(ms j x e kk:Nat){cs:List PV}(hb:look hp ms=some (.box cs))(hj:cs[j]? =some (.d (.lit z1t)))(hk:(decide (0<kk)&&!(ms == x))=true)(hfr:(z1k x hp&&z1q x tm)=true)
 (h:Ops P f R all l k ⟨n,tm,(ms,.box (cs.set j (.ref (0,x))))::(x,.row e kk [])::hp,up⟩):Ops P f R all l k ⟨n,tm,hp,up⟩ :=
 fun is his=>z4q ms j x e kk hb hj hk hfr (h is his)
end Go.Ab
namespace Go.Ab
variable{P:Program}{ty:TypeId}{x:Operand}
theorem zzx{src dst e:TypeId}{ts td te:TI}{l:List Int}[hs:z1d P src ts][hd':z1d P dst td][he:z1d P e te](hks:ts.kind=.slice e)(hkd:td.kind=.str)(hke:te.kind=.int .u8) :
 Val P (.convert src dst x) ty [(x,.d (.slice (l.map fun n=>[.lit (.int .u8 n)])))] [] (S (strOfNums l)):=fun d pos aft gd n tm hp up hd hx _ =>
 z1c rfl hd fun β own ac w hrp=>by
  have h1:=hrp.ev hx.1
  generalize hv:ac.eval x=v at h1
  refine⟨.string (strOfNums l),?_,PR.S _⟩
  cases h1 with
  | d _ _ h1 =>
   have key:(convert src dst v).run P w=.ok (.string (strOfNums l)) w:=by
    generalize hxs:(l.map fun n=>[D.lit (Value.int .u8 n)])=xs at h1
    cases h1 with
    | nil a cap =>
     have:l=[]:=List.map_eq_nil_iff.1 hxs
     subst this
     cases a with
     | none=>exact run_convert_bytes_nil w src e (hs.slice hks) (he.int hke) 0 cap dst (hd'.str hkd)
     | some a =>
      rw[run_convert_bytes_string w src dst e _ 0 cap (hs.slice hks) (he.int hke) (hd'.str hkd),run_bytesToString w a 0 cap [] (by
       have:=run_loadCells_list (P:=P) w a [] fun j v hj=>by simp at hj
       simpa using this)]
      rfl
    | slice _ g o cap k c hc hown hlt hk hcell hdd =>
     subst hxs
     rw[zA4]
     refine run_convert_bytes_arg w src e (hs.slice hks) (he.int hke) g o l.length cap l rfl (fun i hi=>?_) dst (hd'.str hkd)
     have hl1:(l.map fun n=>[D.lit (Value.int .u8 n)])[i]? =some [D.lit (.int .u8 (l.getD i 0))]:=by
      rw[zAd,zA0 hi,List.getD,zA0 hi];rfl
     have hk1:k=1:=by
      have:=hk _ (zA2 hl1);simpa using this.symm
     subst hk1
     have h2:=hcell i (by simpa using hi) 0 (by omega)
     have h3:=hdd i _ hl1 0 _ (by simp;rfl)
     have h4:c i 0=.int .u8 (l.getD i 0):=by
      generalize c i 0=u at h3
      cases h3 with
      | lit _ h=>rfl
     rw[←h4];simpa using h2.1
   simp only[execOp,hv]
   rw[Sem.run_bind,key];rfl
end Go.Ab
namespace Go.Ab
open Go.ChangeShapes Go.WideShapes Go.ChangeAt Go.RowKit
theorem Ext.toBelow{w w':World}{own':Nat→Prop}(h:Ext w (fun _=>False) w' own'):Below w.heap.size w w' :=
 ⟨h.os,h.tape,h.output,h.size,fun k hk=>h.block k hk fun f=>f⟩
theorem Below.kept{w w':World}(h:Below w.heap.size w w')(may:MemPlace→Prop):w.keptBut w' may:=by
 refine⟨h.os,h.output,fun i hi=>?_⟩
 rw[h.block i hi]
 cases hb:w.heap[i]? with
 | none=>rfl
 | some o=>cases o <;> simp
section
variable{H:Type}{enc:TypeId × Value→H}{P:Program}
theorem zb4(hl:laidOutB P=true){W W':World}(hb:Below W.heap.size W W'):∀ {ts:List TypeId} {vs:List Value} {ds:List (DataW H)} {ps:List MemPlace},
 ts.all (fun t=>P.readableRec t&&decide (t<P.types.size))=true→(∀x∈ps,x.block<W.heap.size)→DataW.TrodAll enc P W 0 (fun _=>true) true ts vs ds ps →
 DataW.TrodAll enc P W' 0 (fun b=>decide (b<W.heap.size)) true ts vs ds ps
 | [],vs,ds,ps,_,_,h=>by
  obtain⟨rfl,rfl,rfl⟩:=trodAll_nil h
  exact trodAll_mk0
 | t::ts,vs,ds,ps,hp,hlt,h=>by
  obtain⟨v,vs',d,ds',p,q,rfl,rfl,rfl,h1,h2⟩:=trodAll_cons h
  simp only[List.all_cons,zA7,zA3]at hp
  exact⟨p,q,Below.trod hl hp.1.1 hp.1.2 h1 hb fun x hx=>hlt x (by simp[hx]),zb4 hl hb hp.2 (fun x hx=>hlt x (by simp[hx])) h2,rfl⟩
theorem zmu{fn:Func}{s:ChangeSpec}{W W':World}{own':Nat→Prop}{args:Array Value}{ds gs:List (DataW H)}{before:List MemPlace}{tb:TypeId}(hl:laidOutB P=true)
 (hp:fn.params.toList.all (fun t=>P.readableRec t&&decide (t<P.types.size))=true) (hW:DataW.Whole enc P fn.params.toList s.vars false W args.toList ds gs before) (hE:Ext W (fun _=>False) W' own')
 (hv:s.vars=[]) (hs:s.fn H ds={ results:=[.lit (.bool true)],args:=ds }) (hr:fn.resultTypes=#[tb]) (hb:P.underlying tb=some .bool) :
 s.post enc P fn false true false false W args (.bool true) W':=by
 have hlt:=hW.lt
 have hW':=hW
 obtain⟨p,q,hA,hV,rfl,hfz,hnd⟩:=hW
 rw[hv]at hV
 obtain⟨rfl,rfl⟩:=trodVars_none hV
 simp only[List.append_nil]at hlt hfz hnd hW'
 refine⟨ds,[],p,[],p,[],hW',?_,?_,?_,Below.kept hE.toBelow _,fun h=>by cases h⟩
 ·rw[List.append_nil,hs,hr]
  exact trodAll_mk1 (shut_bool hb _)
 ·rw[List.append_nil,hs]
  exact zb4 hl hE.toBelow hp hlt hA
 ·rw[List.append_nil,hs,hv]
  rfl
end
end Go.Ab
namespace Go.Ab
open Go.ChangeShapes Go.WideShapes Go.ChangeAt Go.RowKit
inductive Sh(P:Program):TypeId→List D→Prop where
 | int (t:TypeId) (k:IntKind) (z:Int) (ht:P.underlying t=some (.int k)) (h1:k.min≤z) (h2:z≤k.max):Sh P t [.lit (.int k z)]
 | bool (t:TypeId) (b:Bool) (ht:P.underlying t=some .bool):Sh P t [.lit (.bool b)]
 | str (t:TypeId) (s:ByteArray) (ht:P.underlying t=some .string) (hs:s.size≤maxLen):Sh P t [.lit (.string s)]
 | slice (t e:TypeId) (xs:List (List D)) (ht:P.underlying t=some (.slice e)) (hl:xs.length≤maxLen) (hx:∀x∈xs,Sh P e x):Sh P t [.slice xs]
 | struct (t:TypeId) (fs:List Field) (parts:List (List D)) (ht:P.underlying t=some (.struct fs.toArray)) (hl:parts.length=fs.length) (hp:∀(i:Nat) (f:Field) (x:List D),fs[i]? =some f→parts[i]? =some x→Sh P f.type x):Sh P t parts.flatten
def y2k(P:Program):Nat→List Field→Option Nat
 | o,[]=>some o
 | o,f::r=>if f.offset=o then y2k P (o+P.cellsOf f.type) r else none
def zka(P:Program)(G:List TypeId):Bool:=G.all fun t=>match P.underlying t with
 | some .bool=>true
 | some (.int _)=>true
 | some .string=>true
 | some (.slice e)=>G.contains e&&decide (0<P.cellsOf e)
 | some (.struct fs)=>fs.toList.all (fun f=>G.contains f.type)&&y2k P 0 fs.toList == some (P.cellsOf t)
 | _=>false
def CD(w:World)(own:Nat→Prop)(ds:List D)(cs:List Value):Prop :=
 ds.length=cs.length∧(∀v∈cs,v.oneCell'=true)∧∀(j:Nat) (x:D) (v:Value),ds[j]? =some x→cs[j]? =some v→DR w own x v
theorem CD.one{w:World}{own:Nat→Prop}{x:D}{v:Value}(h:DR w own x v)(h1:v.oneCell'=true):CD w own [x] [v] :=
 ⟨rfl,by simpa using h1,fun j y u hy hu=>by
   cases j with
   | zero=>simp at hy hu;subst hy;subst hu;exact h
   | succ j=>simp at hy⟩
theorem CD.nil{w:World}{own:Nat→Prop}:CD w own [] []:=⟨rfl,by simp,by simp⟩
theorem CD.append{w:World}{own:Nat→Prop}{a b:List D}{u v:List Value}(h:CD w own a u)(h':CD w own b v):CD w own (a++b) (u++v):=by
 refine⟨by simp[h.1,h'.1],fun x hx=>?_,fun j x y hx hy=>?_⟩
 ·rw[zAt]at hx
  exact hx.elim (h.2.1 x) (h'.2.1 x)
 ·by_cases hj:j<a.length
  ·rw[zAb hj]at hx
   rw[zAb (by rw[←h.1];exact hj)]at hy
   exact h.2.2 j x y hx hy
  ·rw[zAg (by omega)]at hx
   rw[zAg (by rw[←h.1];omega)]at hy
   rw[←h.1]at hy
   exact h'.2.2 _ x y hx hy
theorem zr9{P:Program}(cs:List Value):∀(fs:List Field) (o e:Nat),y2k P o fs=some e→e≤cs.length→(fs.map fun f=>(cs.drop f.offset).take (P.cellsOf f.type)).flatten=(cs.drop o).take (e-o)∧o≤e
 | [],o,e,h,he=>by simp[y2k]at h;subst h;simp
 | f::r,o,e,h,he=>by
  rw[y2k]at h
  split at h
  ·rename_i ho
   obtain⟨h1,h2⟩:=zr9 cs r _ e h he
   refine⟨?_,by omega⟩
   rw[List.map_cons,List.flatten_cons,h1,ho,show e-o=P.cellsOf f.type+(e-(o+P.cellsOf f.type)) by omega,List.take_add,List.drop_drop]
  ·cases h
variable{H:Type}{enc:TypeId × Value→H}{P:Program}
theorem zry{w:World}{own:Nat→Prop}:∀(parts:List (List D)) (vs:List (List Value)),parts.length=vs.length→(∀(i:Nat) (a:List D) (b:List Value),parts[i]? =some a→vs[i]? =some b→CD w own a b)→CD w own parts.flatten vs.flatten
 | [],[],_,_=>CD.nil
 | a::p,b::v,hl,h=>by
  rw[List.flatten_cons,List.flatten_cons]
  exact(h 0 a b rfl rfl).append (zry p v (by simpa using hl) fun i x y hx hy=>h (i+1) x y (by simpa using hx) (by simpa using hy))
 | [],_::_,h,_=>by simp at h
 | _::_,[],h,_=>by simp at h
theorem za9{α β:Type}{p:Nat→α→β→Prop}:∀(l:List α) (o:Nat),(∀(i:Nat) (a:α),l[i]? =some a→∃b,p (o+i) a b)→∃r:List β,r.length=l.length∧∀(i:Nat) (a:α) (b:β),l[i]? =some a→r[i]? =some b→p (o+i) a b
 | [],o,h=>⟨[],rfl,by simp⟩
 | x::l,o,h=>by
  obtain⟨b,hb⟩:=h 0 x rfl
  obtain⟨r,h1,h2⟩:=za9 l (o+1) fun i a ha=>by
   obtain⟨c,hc⟩:=h (i+1) a (by simpa using ha)
   exact⟨c,by rw[show o+1+i=o+(i+1) by omega];exact hc⟩
  refine⟨b::r,by simp[h1],fun i a c ha hc=>?_⟩
  cases i with
  | zero=>simp at ha hc;subst ha;subst hc;exact hb
  | succ i =>
   have:=h2 i a c (by simpa using ha) (by simpa using hc)
   rw[show o+(i+1)=o+1+i by omega];exact this
theorem Sh.inv_int{t:TypeId}{ds:List D}{k:IntKind}(h:Sh P t ds)(ht:P.underlying t=some (.int k)):∃z:Int,ds=[.lit (.int k z)]∧k.min≤z∧z≤k.max:=by
 cases h with
 | int _ k' z h1 h2 h3=>rw[ht]at h1;simp at h1;subst h1;exact⟨z,rfl,h2,h3⟩
 | bool _ b h1=>rw[ht]at h1;simp at h1
 | str _ s h1=>rw[ht]at h1;simp at h1
 | slice _ e xs h1=>rw[ht]at h1;simp at h1
 | struct _ fs p h1=>rw[ht]at h1;simp at h1
theorem Sh.inv_slice{t e:TypeId}{ds:List D}(h:Sh P t ds)(ht:P.underlying t=some (.slice e)):∃xs:List (List D),ds=[.slice xs]∧xs.length≤maxLen∧∀x∈xs,Sh P e x:=by
 cases h with
 | int _ k' z h1 h2 h3=>rw[ht]at h1;simp at h1
 | bool _ b h1=>rw[ht]at h1;simp at h1
 | str _ s h1 hs=>rw[ht]at h1;simp at h1
 | slice _ e' xs h1 h2 h3=>rw[ht]at h1;simp at h1;subst h1;exact⟨xs,rfl,h2,h3⟩
 | struct _ fs p h1=>rw[ht]at h1;simp at h1
theorem Sh.inv_list{t e:TypeId}{ds:List D}{α:Type}(f:α→List D)(Q:α→Prop)(h:Sh P t ds)(ht:P.underlying t=some (.slice e))(he:∀x,Sh P e x→∃a,x=f a∧Q a):∃l:List α,ds=[.slice (l.map f)]∧l.length≤9223372036854775807∧∀a∈l,Q a:=by
 obtain⟨xs,rfl,h1,h2⟩:=h.inv_slice ht
 have:∀xs:List (List D),(∀x∈xs,Sh P e x)→∃l:List α,xs=l.map f∧∀a∈l,Q a:=by
  intro xs
  induction xs with
  | nil=>exact fun _=>⟨[],rfl,by simp⟩
  | cons x xs ih =>
   intro h
   obtain⟨a,ha,hq⟩:=he x (h x (by simp))
   obtain⟨l,hl,hq'⟩:=ih fun y hy=>h y (by simp[hy])
   exact⟨a::l,by rw[ha,hl];rfl,by simpa using⟨hq,hq'⟩⟩
 obtain⟨l,hl,hq⟩:=this xs h2
 refine⟨l,by rw[hl],?_,hq⟩
 have:=congrArg List.length hl
 simp[maxLen]at this h1⊢
 omega
end Go.Ab
namespace Go.Ab
open Go.RowKit Go.Sort
theorem zoj{P:Program}{g:FuncId}{ps:List PV}{bs hs:List (Nm × Blk)}{p:PV}(hp:Plain P g)
 (h:∀(H:Hf),(∀q∈bs,H q.1.1 q.1.2=some q.2)→∀β own w vals,HR H β own w→z8g β w own ps vals→Calls P g vals.toArray w (y68 (fun r H'=>r=.v p∧H'=zf9 H hs) β own w)):z1v P g ps bs hs p :=
 fun H hH=>⟨hp,h H hH⟩
end Go.Ab
namespace Go.Ab
variable{P:Program}{f:FuncId}{R:z4b}{k:List Item}
variable{n:Nat}{tm:List (Nat × PV)}{hp:Hp}{up:Hf}
theorem PR.take{β:Nm→Value}{w:World}{own:Nat→Prop}{m:Nm}{y:Nat}{p:PV}{v:Value}(h:PR β w own p v)(hs:p.says (0,y)=false):PR (z69 β y (β m)) w own (p.take m y) v:=by
 have h2:=h.reβ (β':=z69 β y (β m)) (0,y) (z3h β y _) hs
 cases p with
 | ptr q off =>
  simp only[PV.take]
  split
  ·rename_i e;simp at e;subst e
   cases h with|ptr _ _ g hg=>exact .ptr _ _ g (by rw[z2d];exact hg)
  ·exact h2
 | _=>exact h2
end Go.Ab
namespace Go.Ab
variable{P:Program}{f:FuncId}{R:z4b}{k:List Item}{all:Array Oper}{o:Oper}{l:List Oper}
variable{n:Nat}{tm:List (Nat × PV)}{hp:Hp}{up:Hf}{d:Nat}{ty:TypeId}{pos:String}{aft:Array Edge}{gd:Option (Nat × Bool)}{op:Op}{p:PV}
variable{k':List Item}{s s':St}
theorem Blk.lift_saysN(b:Blk)(j x:Nat):∀i,(b.lift i).says (j+i,x)=b.says (j,x)
 | 0=>by
  cases b with
  | box cs =>
   exact zD35
  | rowp _ cs =>
   exact zD35
  | lp _ _ _ _ _ st _ _ =>
   show z42 (j,x) (z3j 0 st)=z42 (j,x) st
   have h0:∀p:PV,p.lift 0=p:=by
    intro p
    refine PV.rec (motive_1:=fun p=>p.lift 0=p) (motive_2:=fun ps=>PV.liftL 0 ps=ps) ?_ ?_ ?_ ?_ ?_ ?_ ?_ ?_ ?_ ?_ ?_ ?_ ?_ ?_ ?_ p <;> intros <;> simp_all [PV.lift,PV.liftL]
   have:∀st,z3j 0 st=st:=by
    intro st;induction st with
    | nil=>rfl
    | cons p r ih=>obtain⟨t,q⟩:=p;simp[z3j,h0,ih]
   rw[this]
  | _=>rfl
 | i+1=>by rw[Blk.lift_comp,←Nat.add_assoc,Blk.lift_says1];exact Blk.lift_saysN b j x i
def za0(H:Hf)(m:Nm):Prop:=∀e t b,e≤m.1→H e t=some b→b.says (m.1-e,m.2)=false
theorem zdo{H:Hf}{m:Nm}(h:za0 H m){x:Nm}{c:Blk}(hc:z19 H x=some c):c.says m=false:=by
 obtain⟨e,t⟩:=x
 obtain⟨md,ms⟩:=m
 cases e with
 | zero=>exact h 0 t c (zAf _) hc
 | succ e =>
  simp only[z19]at hc
  cases hu:H (e+1) t with
  | none=>rw[hu]at hc;cases hc
  | some q =>
   rw[hu]at hc;simp at hc;subst hc
   by_cases hle:e+1≤md
   ·have:=h (e+1) t q hle hu
    have hl:=Blk.lift_saysN q (md-(e+1)) ms (e+1)
    rw[show md-(e+1)+(e+1)=md by omega]at hl
    rw[hl];exact this
   ·have:=Blk.lift_says0 (e-md) md ms q
    rw[show e-md+md+1=e+1 by omega]at this
    exact this
theorem zfb{m:Nat × Nat}(hq:z3u (m.1+1,m.2) hp=true)(hup:za0 up m):za0 (push hp up) (m.1+1,m.2):=by
 intro e t b he hb
 cases e with
 | zero=>exact z4o hq hb
 | succ e =>
  have:=hup e t b (by omega) hb
  simpa[Nat.add_sub_add_right]using this
theorem zp2(y md ms:Nat){e kk:Nat}{xs:List (List D)}(hb:look hp y=some (.row e kk xs))(hg:up md ms=some .gone)(hvol:R.vol (md,ms))(hq:z3u (md+1,ms) hp=true)(hup:za0 up (md,ms))
 (h:Run P f R k ⟨n,z7y (md+1,ms) tm,(y,.gone)::z48 (md+1,ms) (0,y) hp,upd up (md,ms) (.row e kk xs)⟩):Run P f R k ⟨n,tm,hp,up⟩:=by
 refine Run.stepV (s:=⟨n,tm,hp,up⟩) (s':=⟨n,z7y (md+1,ms) tm,(y,.gone)::z48 (md+1,ms) (0,y) hp,upd up (md,ms) (.row e kk xs)⟩) (fun β own a w hr b' fs=>?_) h
 let β':Nm→Value:=fun m=>if m=(md+1,ms)then β (0,y)else β m
 have hne:∀m,m≠(md+1,ms)→β' m=β m:=fun m hm=>by simp[β',hm]
 have hsame:β' (md+1,ms)=β' (0,y):=by simp[β']
 have hy:β' (0,y)=β (0,y):=hne _ (by simp)
 have hold:∀m c,z19 (push hp up) m=some c→c.says (md+1,ms)=false:=fun m c hc=>zdo (zfb (m:=(md,ms)) hq hup) hc
 have hgone:z19 (push hp up) (md+1,ms)=some .gone:=by simp[z19,push,hg,Blk.lift]
 have h1:HR (push hp up) β' own w:=by
  exact zD21
 have h2:=h1.alias (hp:=hp) hsame
 refine⟨β',own,a,w,⟨hr.size,hr.defers,fun t p hp'=>?_,?_⟩,Ext.refl _ _,fun m hm=>?_,.refl _ _⟩
 ·exact zD79
 ·have hrow:z19 (push (z48 (md+1,ms) (0,y) hp) up) (0,y)=some (.row e kk xs):=by
   show look (z48 (md+1,ms) (0,y) hp) y=_
   rw[z7f,hb];rfl
  have key:∀m c,z19 (push ((y,.gone)::z48 (md+1,ms) (0,y) hp) (upd up (md,ms) (.row e kk xs))) m=some c→c.live=true→(m=(md+1,ms)∧c=.row e kk xs)∨(m≠(md+1,ms)∧m≠(0,y)∧z19 (push (z48 (md+1,ms) (0,y) hp) up) m=some c):=by
   intro m c hm hc
   rw[z2t]at hm
   by_cases e1:m=(0,y)
   ·rw[zAz e1]at hm;simp at hm;subst hm;cases hc
   ·rw[zAy e1,z6l,z3q]at hm
    by_cases e2:m=(md+1,ms)
    ·rw[zAz e2]at hm;simp[atF,Blk.lift]at hm;exact .inl ⟨e2,hm.symm⟩
    ·rw[zAy e2]at hm;exact .inr ⟨e2,e1,hm⟩
  exact zD12
 ·refine hne _ fun e=>hm ?_
  simp only[Prod.mk.injEq]at e
  have:m=(md,ms):=Prod.ext (by omega) e.2
  subst this
  exact hvol
def zqo(H:Hf)(bs:List (Nm × Blk))(m:Nm):Prop:=∀e t b,e≤m.1→(∀q∈bs,q.1≠(e,t))→H e t=some b→b.says (m.1-e,m.2)=false
def z5d(P:Program)(g:FuncId)(args:List PV)(bs hs:List (Nm × Blk))(p:PV)(m:Nm):Prop :=
 ∀H:Hf,(∀q∈bs,H q.1.1 q.1.2=some q.2)→zqo H bs m→z9r P g args H ⟨fun r H'=>r=.v p∧H'=zf9 H hs,fun n=>n=m,none⟩
theorem zl6{g:FuncId} (hc:∀β own a w,Rep s β own a w→∃vals w1 own1,(execOp a.eval o).run P w=.ok (.enter g vals) w1∧Ext w own w1 own1 ∧
  Calls P g vals w1 fun e w'=>∃v β' own' s',e=.returned v∧Rep s' β' own' (a.put o.dst v) w'∧Ext w1 own1 w' own'∧(∀x,¬R.vol x→z71 β' x=z71 β x)∧Ops P f R all l k s'):Op1 P f R all o l k s:=by
 intro i rest ho hrest β own a w hrep hw b hb hk hn cs
 obtain⟨vals,w1,own1,hrun,hext1,hcall⟩:=hc β own a w hrep
 obtain⟨e,w',fr,⟨v,β',own',s',rfl,hrep',hext,hout,hops⟩,hsteps,_,hleave⟩:=hcall (am b a (.inRegion all (i::rest)::k)::cs)
 have hn':zbf R (z71 β') b:=by
  exact zD75
 exact(((hops rest hrest β' own' _ w' hrep' b hb hk hn' cs).same hout).ext (hext1.trans hext)).of_steps (zgz ho hw hrun hsteps hleave)
def zhd(P:Program)(m:Nm)(args:List PV)(H:Hf)(R:zc7)(vol:Nm→Prop):Prop :=
 ∀β own w vals L,HR H β own w→z8g β w own args vals→β m=.pointer (some ⟨L,0,none⟩) →
  ∃g tmps asg body,(Instr.yield L vals.toArray).run P w=.ok (.round L g tmps asg body) w∧∀(c:Frame) cs,∃w' v r H' own' β',
   Steps P (lone (Frame.round L g tmps asg body .normal) (c::cs) w) (lone (c.finish v) cs w')∧R r H'∧RVR H' β' w' own' r v∧HR H' β' own' w'∧Ext w own w' own'∧∀x,¬vol x→β' x=β x
theorem zea{m:Nm}{n':Nat}{f':FuncId}{ps:Array Tmp}{asg body:Code}{st:List (Nat × PV)}{pend:Option Code}(hrnd:R.rnd=some m)(hb:up m.1 m.2=some (.lp n' f' ps asg body st .ready pend))
 (h:Run P f R k ⟨n,tm,hp,upd up m (.lp n' f' ps asg body st .busy pend)⟩):Run P f R (.beginRound::k) ⟨n,tm,hp,up⟩:=by
 intro β own a w hrep b hb' hk hn cs
 have hn0:=hn
 unfold zbf at hn
 rw[hrnd]at hn
 obtain⟨hv,L,hL,hβ⟩:=hn
 have hlook:z19 (push hp up) (m.1+1,m.2)=some ((Blk.lp n' f' ps asg body st .ready pend).lift (m.1+1)):=by simp[z19,push,hb]
 have hbr:=hrep.heap.blk _ _ hlook
 have hβ':β (m.1+1,m.2)=.pointer (some ⟨L,0,none⟩):=hβ
 simp only[Blk.lift]at hbr
 generalize hgv:β (m.1+1,m.2)=vv at hbr
 cases hbr with
 | lp g _ _ _ _ _ _ _ _ tmps df ho hg hl hd =>
  rw[hβ']at hgv
  simp at hgv
  subst hgv
  have hgl:L<w.heap.size:=(Array.getElem?_eq_some_iff.1 hg).1
  have hrun:=run_beginRound (P:=P) hg rfl
  obtain⟨w1,hw1⟩:∃w1,w.putObj L (.loop { state:=.busy,pending:=pend,fn:=f',tmps:=tmps,params:=ps,assign:=asg,body:=body,defers:=df })=w1:=⟨_,rfl⟩
  rw[show({ state:=LoopState.busy,pending:=pend,fn:=f',tmps:=tmps,params:=ps,assign:=asg,body:=body,defers:=df }:Loop)={ ({ state:=.ready,pending:=pend,fn:=f',tmps:=tmps,params:=ps,assign:=asg,body:=body,defers:=df }:Loop)with state:=.busy }from rfl]at hw1
  rw[hw1]at hrun
  have hoth:∀g,g≠L→w1.heap[g]? =w.heap[g]?:=fun g hg'=>by rw[←hw1];exact World.putObj_heap_other hg'
  have hhere:w1.heap[L]? =some (.loop { state:=.busy,pending:=pend,fn:=f',tmps:=tmps,params:=ps,assign:=asg,body:=body,defers:=df }):=by rw[←hw1];exact World.putObj_heap_same hgl
  have hsz:w1.heap.size=w.heap.size:=by rw[←hw1];simp
  have hE:Ext w own w1 own:=⟨by rw[←hw1];rfl,by rw[←hw1];rfl,by rw[←hw1];rfl,by omega,fun g hg' hog=>hoth g fun e=>hog (e▸ho),fun _ _ h=>h⟩
  have hR1:=hrep.heap.change (m:=(m.1+1,m.2)) (raw:=.lp n' f' ps asg body st .busy pend) hlook rfl hE hsz (fun g hg'=>hoth g fun e=>hg' (by rw[hβ',e];rfl)) (by
   rw[hβ']
   show BR β w1 own _ (.lp n' f' ps asg body (z3j (m.1+1) st) .busy pend)
   exact .lp L n' f' ps asg body _ .busy pend tmps df ho hhere hl fun t p hp=>(hd t p hp).mono hE)
  have hrep1:Rep ⟨n,tm,hp,upd up m (.lp n' f' ps asg body st .busy pend)⟩ β own a w1:=⟨hrep.size,hrep.defers,fun t p hp=>(hrep.tm t p hp).mono hE,by rw[show upd up m (.lp n' f' ps asg body st .busy pend)=upd up (m.1,m.2) (.lp n' f' ps asg body st .busy pend)from rfl,z6l];exact hR1⟩
  exact((h β own a w1 hrep1 b hb' hk hn0 cs).ext hE).of_steps (.one (stepR_beginRound hL hrun))
end Go.Ab
namespace Go.Ab
variable{P:Program}{f:FuncId}{R:z4b}{k:List Item}{all:Array Oper}{o:Oper}{l:List Oper}
variable{n:Nat}{tm:List (Nat × PV)}{hp:Hp}{up:Hf}{d:Nat}{ty:TypeId}{pos:String}{aft:Array Edge}{gd:Option (Nat × Bool)}{op:Op}{p:PV}
variable{k':List Item}{s s':St}
theorem zhk{H:Hf}{β:Nm→Value}{own:Nat→Prop}{w:World}(hr:HR H β own w){m:Nm}{n':Nat}{f':FuncId}{ps:Array Tmp}{asg body:Code}{st:List (Nat × PV)}{state:LoopState}{pend:Option Code}(hb:H m.1 m.2=some (.lp n' f' ps asg body st state pend)) :
 ∃L tmps df,β m=.pointer (some ⟨L,0,none⟩)∧own L∧w.heap[L]? =some (.loop { state,pending:=pend,fn:=f',tmps,params:=ps,assign:=asg,body,defers:=df })∧tmps.size=n' ∧
  ∀t q,(t,q)∈st→PR (inn β) w own (q.lift (m.1+1)) (tmps.getD t undef):=by
 obtain⟨md,ms⟩:=m
 cases md with
 | zero =>
  have hbr:=hr.blk (0,ms) _ (show z19 H (0,ms)=some _ from hb)
  generalize hgv:β (0,ms)=vv at hbr
  cases hbr with
  | lp g _ _ _ _ _ _ _ _ tmps df ho hg hl hd=>exact⟨g,tmps,df,rfl,ho,hg,hl,fun t q hq=>PR.lift (β:=inn β) (by rw[z74];exact hd t q hq)⟩
 | succ md =>
  have hbr:=hr.blk (md+1,ms) _ (show z19 H (md+1,ms)=some _ by simp only[z19,hb];rfl)
  simp only[Blk.lift]at hbr
  generalize hgv:β (md+1,ms)=vv at hbr
  cases hbr with
  | lp g _ _ _ _ _ _ _ _ tmps df ho hg hl hd =>
   refine⟨g,tmps,df,rfl,ho,hg,hl,fun t q hq=>?_⟩
   have:=PR.lift (β:=inn β) (by rw[z74];exact hd t _ (za8 hq))
   rwa [PV.lift_lift]at this
theorem zws{H:Hf}{β:Nm→Value}{own:Nat→Prop}{w:World}(hr:HR H β own w){m:Nm}{n':Nat}{f':FuncId}{ps:Array Tmp}{asg body:Code}{st:List (Nat × PV)}{state state':LoopState}{pend pend':Option Code}(hb:H m.1 m.2=some (.lp n' f' ps asg body st state pend))
 {L:Nat} {tmps:Array Value} {df:Nat} (hβ:β m=.pointer (some ⟨L,0,none⟩)) (ho:own L) (hg:w.heap[L]? =some (.loop { state,pending:=pend,fn:=f',tmps,params:=ps,assign:=asg,body,defers:=df })) :
 Ext w own (w.putObj L (.loop { state:=state',pending:=pend',fn:=f',tmps,params:=ps,assign:=asg,body,defers:=df })) own ∧
 HR (upd H m (.lp n' f' ps asg body st state' pend')) β own (w.putObj L (.loop { state:=state',pending:=pend',fn:=f',tmps,params:=ps,assign:=asg,body,defers:=df })):=by
 obtain⟨w1,hw1⟩:∃w1,w.putObj L (.loop { state:=state',pending:=pend',fn:=f',tmps,params:=ps,assign:=asg,body,defers:=df })=w1:=⟨_,rfl⟩
 rw[hw1]
 have hgl:L<w.heap.size:=(Array.getElem?_eq_some_iff.1 hg).1
 have hoth:∀g,g≠L→w1.heap[g]? =w.heap[g]?:=fun g hg'=>by rw[←hw1];exact World.putObj_heap_other hg'
 have hhere:w1.heap[L]? =some (.loop { state:=state',pending:=pend',fn:=f',tmps:=tmps,params:=ps,assign:=asg,body:=body,defers:=df }):=by rw[←hw1];exact World.putObj_heap_same hgl
 have hsz:w1.heap.size=w.heap.size:=by rw[←hw1];simp
 have hE:Ext w own w1 own:=⟨by rw[←hw1];rfl,by rw[←hw1];rfl,by rw[←hw1];rfl,by omega,fun g hg' hog=>hoth g fun e=>hog (e▸ho),fun _ _ h=>h⟩
 refine⟨hE,?_⟩
 obtain⟨md,ms⟩:=m
 cases md with
 | zero =>
  have hlook:z19 H (0,ms)=some (.lp n' f' ps asg body st state pend):=hb
  have hbr:=hr.blk (0,ms) _ hlook
  refine hr.change (m:=(0,ms)) (raw:=.lp n' f' ps asg body st state' pend') hlook rfl hE hsz (fun g hg'=>hoth g fun e=>hg' (by rw[hβ,e];rfl)) ?_
  show BR β w1 own (β (0,ms)) (.lp n' f' ps asg body st state' pend')
  exact zD62
 | succ md =>
  have hlook:z19 H (md+1,ms)=some (.lp n' f' ps asg body (z3j (md+1) st) state pend):=by
   simp only at hb;simp only[z19,hb];rfl
  have hbr:=hr.blk (md+1,ms) _ hlook
  refine hr.change (m:=(md+1,ms)) (raw:=.lp n' f' ps asg body st state' pend') hlook rfl hE hsz (fun g hg'=>hoth g fun e=>hg' (by rw[hβ,e];rfl)) ?_
  show BR β w1 own (β (md+1,ms)) (.lp n' f' ps asg body (z3j (md+1) st) state' pend')
  exact zD62
def zpt(n':Nat)(f':FuncId)(ps:Array Tmp)(asg body:Code)(st:List (Nat × PV))(jump:Option Code):Blk:=.lp n' f' ps asg body st (if jump.isNone then .ready else .done) jump
theorem zpa{fr:Frame}(h:fr.mode=.run):fr=fr.atR { tmps:=fr.tmps,defers:=fr.defers } fr.todo:=by
 cases fr;simp at h;subst h;rfl
theorem y28{m:Nm}{H:Hf}{n':Nat}{f':FuncId}{t0:Tmp}{asg body:Code}{st:List (Nat × PV)}{arg:PV}{R2 R':zc7}{vol:Nm→Prop}{pend:Option Code}
 (hb:H m.1 m.2=some (.lp n' f' #[t0] asg body st .ready pend)) (ht0:t0<n') (hvm:¬vol m)
 (h:Run P f' ⟨R2,vol,some m⟩ [.code asg,.beginRound,.code body] ⟨n',(t0,arg.lift 1)::z3j (m.1+1) st,[],H⟩)
 (hend:∀H',R2 (.v (B true)) H'→∃st' pd,H' m.1 m.2=some (.lp n' f' #[t0] asg body st' .busy pd)∧R' (.v (B true)) (upd H' m (zpt n' f' #[t0] asg body st' none)))
 (hret:∀H',R2 (.v (B false)) H'→∃st' pd,H' m.1 m.2=some (.lp n' f' #[t0] asg body st' .busy pd)∧R' (.v (B false)) (upd H' m (zpt n' f' #[t0] asg body st' (some .ret))))
 (hexit:∀(id:Nat) H',R2 (.v (I .i64 (id:Nat))) H'→∃st' pd,H' m.1 m.2=some (.lp n' f' #[t0] asg body st' .busy pd)∧R' (.v (B false)) (upd H' m (zpt n' f' #[t0] asg body st' (some (.exit id))))) :
 zhd P m [arg] H R' vol:=by
 intro β own w vals L0 hr hargs hβ0
 obtain⟨L,tmps,df,hβ,ho,hg,hsz,hfacts⟩:=zhk hr hb
 obtain rfl:L0=L:=by rw[hβ]at hβ0;simpa using hβ0.symm
 obtain⟨hl,ha⟩:=hargs
 obtain⟨v,rfl⟩:∃v,vals=[v]:=by
  match vals,hl with
  | [v],_=>exact⟨v,rfl⟩
 have hav:=ha 0 arg v rfl rfl
 refine⟨f',tmps.setIfInBounds t0 v,asg,body,?_,fun c cs=>?_⟩
 ·have:=run_yield (P:=P) (args:=[v].toArray) hg (by simp)
  simpa using this
 let b:Frame:={ fn:=f',tmps:=#[],todo:=[],defers:=[],mode:=.run,kind:=.normal,roundOf:=some L0 }
 have hstart:Frame.round L0 f' (tmps.setIfInBounds t0 v) asg body .normal=am b { tmps:=tmps.setIfInBounds t0 v,defers:=[] } [.code asg,.beginRound,.code body]:=by
  simp[Frame.round,am,Frame.atR,b]
 have hrep:Rep ⟨n',(t0,arg.lift 1)::z3j (m.1+1) st,[],H⟩ (inn β) own { tmps:=tmps.setIfInBounds t0 v,defers:=[] } w:=by
  refine⟨by simpa using hsz,rfl,fun t p hp=>?_,hr.inner⟩
  simp only[look]at hp
  split at hp
  ·rename_i e;subst e
   simp at hp;subst hp
   have:(tmps.setIfInBounds t0 v).getD t0 undef=v:=by simp[Array.getD_eq_getD_getElem?,hsz,ht0]
   rw[this]
   exact PR.lift (β:=inn β) (by rw[z74];exact hav)
  ·rename_i e
   have hmem:∀ {l:List (Nat × PV)} {t:Nat} {p:PV},look l t=some p→(t,p)∈l:=by
    intro l
    induction l with
    | nil=>intro t p h;simp[look]at h
    | cons x r ih =>
     obtain⟨u,q⟩:=x
     intro t p h
     simp only[look]at h
     split at h
     ·rename_i e;subst e;simp at h;subst h;simp
     ·exact List.mem_cons_of_mem _ (ih h)
   obtain⟨q,h1,rfl⟩:=zby (hmem hp)
   have hne:(tmps.setIfInBounds t0 v).getD t undef=tmps.getD t undef:=by
    simp only[Array.getD_eq_getD_getElem?];rw[Array.getElem?_setIfInBounds_ne e]
   rw[hne]
   exact hfacts t q h1
 obtain⟨w',fr,r,H',ownm,β',h1,h2,h3,h4,h5,h6,h7,h8,v',h9,h10,h11⟩:=h (inn β) own _ w hrep b rfl rfl ⟨hvm,L0,rfl,by rw[z74];exact hβ⟩ (c::cs)
 rw[z74]at h6
 subst h10
 have hβm:β' m=.pointer (some ⟨L0,0,none⟩):=(h6 m hvm).trans hβ
 have hfr:=zpa h7
 have fin:∀(jump:Option Code) (st':List (Nat × PV)) (pd:Option Code) (vv:Bool),H' m.1 m.2=some (.lp n' f' #[t0] asg body st' .busy pd)→R' (.v (B vv)) (upd H' m (zpt n' f' #[t0] asg body st' jump))→jump.isNone=vv →
  (∀w2,(Instr.endRound L0 jump).run P w'=.ok (.bool vv) w2→step P (lone fr (c::cs) w')=.next (lone (c.finish (.bool vv)) cs w2)) →
  ∃w' v' r H' own' β',Steps P (lone (Frame.round L0 f' (tmps.setIfInBounds t0 v) asg body .normal) (c::cs) w) (lone (c.finish v') cs w')∧R' r H'∧RVR H' β' w' own' r v'∧HR H' β' own' w'∧Ext w own w' own'∧∀x,¬vol x→β' x=β x:=by
  intro jump st' pd vv hb' hR' hj hstep
  obtain⟨L',tmps',df',hβ'',ho',hg',_,_⟩:=zhk h11 hb'
  obtain rfl:L0=L':=by rw[hβ'']at hβm;simpa using hβm.symm
  have hrun:=run_endRound (P:=P) jump hg'
  rw[hj]at hrun
  obtain⟨hE,hR2⟩:=zws (state':=if jump.isNone then .ready else .done) (pend':=jump) h11 hb' hβ'' ho' hg'
  rw[hj]at hE hR2
  have hst:=hstep _ hrun
  refine⟨_,_,_,_,ownm,β',Steps.trans (by rw[hstart];exact h1) (.one hst),hR',.v _ _ (.d _ _ (.lit _ rfl)),?_,h5.trans hE,h6⟩
  rw[zpt,hj];exact hR2
 rcases h9 with⟨e1,rfl⟩|⟨⟨k',e1⟩,rfl⟩|⟨id,k',e1,e2,rfl⟩
 ·obtain⟨st',pd,hb',hR'⟩:=hend H' h4
  refine fin none st' pd true hb' hR' rfl fun w2 hw2=>?_
  rw[hfr,e1]
  exact stepR_round_end (b:=fr) (by rw[h8]) h3 hw2
 ·obtain⟨st',pd,hb',hR'⟩:=hret H' h4
  refine fin (some .ret) st' pd false hb' hR' rfl fun w2 hw2=>?_
  rw[hfr,e1]
  exact stepR_round_ret (b:=fr) (by rw[h8]) h3 hw2
 ·obtain⟨st',pd,hb',hR'⟩:=hexit id H' h4
  refine fin (some (.exit id)) st' pd false hb' hR' rfl fun w2 hw2=>?_
  rw[hfr,e1]
  exact stepR_round_exit (b:=fr) (by rw[h8]) h3 e2 hw2
theorem y0u{fo:Operand}{args:List Operand}{m mv:Nm}{ps:List PV}{ats:Array TypeId}{R':zc7}(hsp:zhd P m ps (push hp up) R' fun x=>x=mv)(hfo:St.ev ⟨n,tm,hp,up⟩ fo=some (.yl m))(hev:St.evs ⟨n,tm,hp,up⟩ args=some ps)
 (hv:∀x:Nm,mv=(x.1+1,x.2)→R.vol x) (hd:d<n) (hk:∀r H,R' r H→∃p hp' up',r=.v p∧H=push hp' up'∧Ops P f R all l k ⟨n,(d,p)::z7y mv tm,hp',up'⟩) :
 Op1 P f R all ⟨some d,.call ⟨.value fo,args.toArray,ats⟩,ty,pos,aft,gd⟩ l k ⟨n,tm,hp,up⟩:=by
 intro i rest ho hrest β own a w hrep hw b hb hk' hn cs
 have hfv:=hrep.ev hfo
 generalize hvv:a.eval fo=vv at hfv
 cases hfv with
 | yl _ L hβ =>
  have hargs:=hrep.evs hev
  obtain⟨g,tmps,asg,body,hrun,hround⟩:=hsp β own w (args.map a.eval) L hrep.heap hargs hβ
  have hexec:(execOp a.eval ⟨some d,.call ⟨.value fo,args.toArray,ats⟩,ty,pos,aft,gd⟩).run P w=.ok (.round L g tmps asg body) w:=by
   simp[execOp,resolve,hvv,Deferred.ofValue,invoke]
   simpa using hrun
  obtain⟨w',v,r,H,own',β',hst,hR,hrv,hheap,hext,hβ'⟩:=hround (am b a (.inRegion all (i::rest)::k)) cs
  obtain⟨p,hp',up',rfl,rfl,hops⟩:=hk r H hR
  have hout:∀x,¬R.vol x→z71 β' x=z71 β x:=fun x hx=>hβ' _ fun e=>hx (hv x e.symm)
  have hn':zbf R (z71 β') b:=by
   exact zD75
  cases hrv with
  | v _ _ hpv =>
   have hr':Rep ⟨n,z7y mv tm,hp',up'⟩ β' own' a w':=by
    refine⟨hrep.size,hrep.defers,fun t q hq=>?_,hheap⟩
    simp only at hq
    rw[z6r]at hq
    cases hq':look tm t with
    | none=>rw[hq']at hq;cases hq
    | some q0=>rw[hq']at hq;simp at hq;subst hq;exact((hrep.tm t q0 hq').mono hext).drop hβ'
   have hr2:=hr'.put (dst:=some d) (p:=p) (v:=v) (by simp[St.fits,hd]) hpv
   have hgo:=stepGR_op (P:=P) (b:=b) (a:={ a with defers:=b.defers }) (k:=k) (cs:=cs) (w:=w) (rest:=rest) ho hw
   have hfin:∀v,(am b a (.inRegion all (i::rest)::k)).finish v=am b (a.put (some d) v) (.inRegion all rest::k):=by
    intro v;rw[z90,ho];rfl
   have hsem:=z9a (ro:=b.roundOf) hexec (by simp)
   rw[←zb5 b a]at hsem
   have henter:step P (lone (am b a (.inRegion all (i::rest)::k)) cs w)=.next (lone (Frame.round L g tmps asg body .normal) (am b a (.inRegion all (i::rest)::k)::cs) w) :=
    step_lone_go (by
     rw[show am b a (.inRegion all (i::rest)::k)=b.atR { a with defers:=b.defers } (.inRegion all (i::rest)::k)from rfl]
     rw[hgo];simp[stepG.apply,hsem,Frame.atR])
   rw[hfin]at hst
   exact(((hops rest hrest β' own' _ w' hr2 b hb hk' hn' cs).same hout).ext hext).of_steps (.head henter hst)
end Go.Ab
namespace Go.Ab
variable{P:Program}{f:FuncId}{R:z4b}{k:List Item}
variable{n:Nat}{tm:List (Nat × PV)}{hp:Hp}{up:Hf}
theorem zae(ls ms:Nat)(st:List (Nat × PV)){g:Operand}{ps:Array Tmp}{asg body:Code}{gf:FuncId}{cap:List PV}{R':z4b}(hrnd:R.rnd=none)(hgv:St.ev ⟨n,tm,hp,up⟩ g=some (.fn (.func gf) [] cap))
 (hst:zsg st tm) (hfr:(z1k ls hp&&z1q ls tm)=true) (hms:(ms == ls)=false)
 (hsp:z9r P gf (.yl (0,ls)::cap) (push ((ls,.lp n f ps asg body st .ready none)::hp) up) R') (hv:∀m,R'.vol m→m=(0,ms))
 (hk:∀r H,R'.post r H→∃state jump st' hp' up',H=push ((ls,.lp n f ps asg body st' state jump)::hp') up'∧state≠.busy∧Run P f R ((jump.map Item.code).toList++k) ⟨n,z7y (0,ms) tm,(ls,.gone)::hp',up'⟩) :
 Run P f R (.code (.rangeFunc g ps asg body)::k) ⟨n,tm,hp,up⟩:=by
 intro β own a w hrep b hb hbk hn cs
 have hb0:b.roundOf=none:=by rw[zbf,hrnd]at hn;exact hn
 have hfr':=hfr
 simp only[zA7]at hfr'
 have hsub:=zwf hst
 obtain⟨L,hL⟩:∃L,w.heap.size+1=L:=⟨_,rfl⟩
 obtain⟨w0,hw0⟩:∃w0,w.alloc (.deferred (some []))=w0:=⟨_,rfl⟩
 obtain⟨lo,hlo⟩:∃lo:Loop,lo={ state:=.ready,pending:=none,fn:=f,tmps:=a.tmps,params:=ps,assign:=asg,body,defers:=w.heap.size }:=⟨_,rfl⟩
 obtain⟨w1,hw1⟩:∃w1,w0.alloc (.loop lo)=w1:=⟨_,rfl⟩
 have hs0:w0.heap.size=w.heap.size+1:=by rw[←hw0];exact World.size_alloc _ _
 have hs1:w1.heap.size=w.heap.size+2:=by rw[←hw1,World.size_alloc,hs0]
 have hoth:∀i,i<w.heap.size→w1.heap[i]? =w.heap[i]?:=fun i hi=>by
  rw[←hw1,z8r _ _ _ (by omega),←hw0,z8r _ _ _ hi]
 have hD1:w1.heap[w.heap.size]? =some (.deferred (some [])):=by
  rw[←hw1,z8r _ _ _ (by omega),←hw0];exact World.alloc_heap_new _ _
 have hL1:w1.heap[L]? =some (.loop lo):=by
  rw[←hw1,←hL,←hs0];exact World.alloc_heap_new _ _
 -- the own blocks now
 let own1:Nat→Prop:=fun g=>own g∨g=L
 have hE1:Ext w own w1 own1:=⟨by rw[←hw1,←hw0];rfl,by rw[←hw1,←hw0];rfl,by rw[←hw1,←hw0];rfl,by omega,fun i hi _=>hoth i hi,fun i hi ho h=>by
  rcases h with h|h
  ·exact ho h
  ·omega⟩
 have hrep1:Rep ⟨n,tm,(ls,.lp n f ps asg body st .ready none)::hp,up⟩ (z69 β ls (.pointer (some ⟨L,0,none⟩))) own1 a w1:=by
  refine hrep.install hfr hE1 (fun i hi=>?_) (fun m c hm hc hne i hi=>⟨hoth i (hrep.heap.lt i ((hrep.heap.blk m c hm).block_lt hc hi)),.inl ((hrep.heap.blk m c hm).block_lt hc hi),fun _ e=>?_⟩) ?_
  ·rcases hi with hi|rfl
   ·have:=hrep.heap.lt i hi;omega
   ·omega
  ·simp[z2h]at e
   have:=hrep.heap.lt i ((hrep.heap.blk m c hm).block_lt hc hi)
   omega
  ·refine .lp L n f ps asg body st .ready none a.tmps w.heap.size (.inr rfl) (by rw[hL1,hlo]) hrep.size fun t p hp=>?_
   have hlook:look tm t=some p:=by
    have:∀ {l:List (Nat × PV)},Sub l tm→(t,p)∈l→look tm t=some p:=by
     intro l
     induction l with
     | nil=>intro _ h;simp at h
     | cons x r ih =>
      obtain⟨u,q⟩:=x
      intro hs h
      rw[zAc]at h
      rcases h with e|h
      ·simp at e;rw[e.1,e.2];exact hs.1
      ·exact ih hs.2 h
    exact this hsub hp
   exact((hrep.tm t p hlook).mono hE1).reβ (0,ls) (z3h β ls _) (z7z hfr'.2 hlook)
 obtain⟨β1,hβ1⟩:∃β1,z69 β ls (.pointer (some ⟨L,0,none⟩))=β1:=⟨_,rfl⟩
 rw[hβ1]at hrep1
 have hβ1L:β1 (0,ls)=.pointer (some ⟨L,0,none⟩):=by rw[←hβ1,z2d]
 have ho1:z71 β1=z71 β:=by rw[←hβ1];exact z3a _ _ _
 -- the call
 have hgr:=hrep1.ev (x:=g) hgv
 generalize hvv:a.eval g=vv at hgr
 cases hgr with
 | fn _ _ _ fv cv hl hl' hd hd' =>
  have hfv:fv=[]:=by simpa using hl.symm
  subst hfv
  obtain⟨fn,hfn,hname,hbody⟩:=hsp.plain
  have hbc:∃c,fn.body=some c:=by cases hc:fn.body with|none=>rw[hc]at hbody;cases hbody|some c=>exact⟨c,rfl⟩
  obtain⟨c,hbc⟩:=hbc
  have hname':¬(fn.name= "runtime.NumGoroutine"):=by simpa using hname
  have hargs:z8g β1 w1 own1 (.yl (0,ls)::cap) (.func (.yield L) #[] #[]::cv):=by
   refine⟨by simp[hl'],fun j p v hp hv=>?_⟩
   cases j with
   | zero=>simp at hp hv;subst hp;subst hv;exact .yl _ L hβ1L
   | succ j=>exact hd' j p v (by simpa using hp) (by simpa using hv)
  let b2:Frame:={ b with defers:=mark w.heap.size::b.defers }
  have hstep:step P (lone (am b a (.code (.rangeFunc g ps asg body)::k)) cs w)=.next (lone (Frame.enter P gf (.func (.yield L) #[] #[]::cv).toArray .normal) (am b2 a (.inRangeFunc L::k)::cs) w1):=by
   have he:(Instr.enterLoop b.fn ({ a with defers:=b.defers }:Act).tmps ps asg body b.roundOf).run P w=.ok (L,[mark w.heap.size]) w1:=by
    rw[hb0]
    have:=run_enterLoop_outer (P:=P) (w:=w) b.fn a.tmps ps asg body
    rw[hb,hw0]at this
    rw[hb,this,←hw1,hlo,hL];rfl
   have hev:({ a with defers:=b.defers }:Act).eval g=.func (.func gf) #[] cv.toArray:=by rw[zk2];simpa using hvv
   exact stepR_rangeFunc (P:=P) (b:=b) (a:={ a with defers:=b.defers }) (k:=k) (cs:=cs) (d:={ target:=.fn (.func gf) cv.toArray,args:=#[.func (.yield L) #[] #[]] }) (w₁':=w1) (w₂:=w1) he
    (by simp only[resolve,hev];simp[Deferred.ofValue,Act.eval]) (by simp[invoke,callFunc,hfn,hname',hbc])
  obtain⟨e,w2,fr,⟨v,r,H,own2,β2,rfl,hR,hrv,hheap,hext,hβ2⟩,hcomes,hfrf,hleave⟩:=hsp.run β1 own1 w1 _ hrep1.heap hargs (am b2 a (.inRangeFunc L::k)::cs)
  obtain⟨state,jump,st',hp',up',rfl,hbusy,hrun⟩:=hk r H hR
  have hne:∀x,x≠(0,ms)→β2 x=β1 x:=fun x hx=>hβ2 x fun h=>hx (hv x h)
  have hlsms:((0,ls):Nm)≠(0,ms):=by
   intro e;simp at e;simp at hms;exact hms e.symm
  have hβ2L:β2 (0,ls)=.pointer (some ⟨L,0,none⟩):=(hne _ hlsms).trans hβ1L
  have hblk:(push ((ls,.lp n f ps asg body st' state jump)::hp') up') (0,ls).1 (0,ls).2=some (.lp n f ps asg body st' state jump):=by simp[push,look]
  obtain⟨L',tmps',df',hβ',ho',hg',_,_⟩:=zhk hheap hblk
  obtain rfl:L=L':=by rw[hβ2L]at hβ';simpa using hβ'
  have hrunE:=run_endLoop (P:=P) hg' hbusy
  obtain⟨hE2,hR2⟩:=zws (state':=.exhausted) (pend':=jump) hheap hblk hβ' ho' hg'
  obtain⟨w3,hw3⟩:∃w3,w2.putObj L (.loop { state:=.exhausted,pending:=jump,fn:=f,tmps:=tmps',params:=ps,assign:=asg,body:=body,defers:=df' })=w3:=⟨_,rfl⟩
  rw[hw3]at hE2 hR2
  have hrunE':(Instr.endLoop L).run P w2=.ok jump w3:=by rw[hrunE,←hw3]
  -- the state behind the loop
  have hrep3:Rep ⟨n,z7y (0,ms) tm,(ls,.gone)::hp',up'⟩ β2 own2 a w3:=by
   refine⟨hrep1.size,hrep1.defers,fun t p hp=>?_,?_⟩
   ·simp only at hp
    rw[z6r]at hp
    cases hq:look tm t with
    | none=>rw[hq]at hp;cases hp
    | some q=>rw[hq]at hp;simp at hp;subst hp;exact((hrep1.tm t q hq).mono (hext.trans hE2)).drop hne
   ·have:=hR2.drop (0,ls)
    refine⟨fun m c hm=>?_,fun m1 m2 c1 c2 h1 h2 l1 l2 hn'=>?_,this.lt⟩
    ·rw[z2t]at hm
     by_cases e:m=(0,ls)
     ·rw[zAz e]at hm;simp at hm;subst hm;exact .gone _
     ·rw[zAy e]at hm
      refine this.blk m c ?_
      rw[z3q,zAy e,z3q,zAy e,z2t,zAy e];exact hm
    ·have key:∀m c,z19 (push ((ls,.gone)::hp') up') m=some c→c.live=true→z19 (upd (upd (push ((ls,.lp n f ps asg body st' state jump)::hp') up') (0,ls) (.lp n f ps asg body st' .exhausted jump)) (0,ls) .gone) m=some c:=by
      intro m c hm hc
      rw[z2t]at hm
      by_cases e:m=(0,ls)
      ·rw[zAz e]at hm;simp at hm;subst hm;cases hc
      ·rw[zAy e]at hm
       rw[z3q,zAy e,z3q,zAy e,z2t,zAy e];exact hm
     exact this.inj m1 m2 c1 c2 (key m1 c1 h1 l1) (key m2 c2 h2 l2) l1 l2 hn'
  have hob:z71 β2=z71 β:=by
   rw[←ho1];funext x;exact hne _ (by simp)
  have hn2:zbf R (z71 β2) b2:=by rw[zbf,hrnd];exact hb0
  have hD2:w.heap.size<w1.heap.size∧¬own1 w.heap.size:=⟨by omega,fun h=>by
   rcases h with h|h
   ·have:=hrep.heap.lt _ h;omega
   ·omega⟩
  obtain⟨w',fr',r',H',ownm,β',h1,h2,h3,h4,h5,h6,h7⟩:=hrun β2 own2 a w3 hrep3 b2 hb hbk hn2 cs
  rw[hob]at h6
  rw[hrnd]at h7
  obtain⟨a1,⟨Ds,a2,a3,a4⟩,a5⟩:=h7
  have hext3:=hext.trans hE2
  have hD3:w3.heap[w.heap.size]? =some (.deferred (some [])):=by rw[hext3.block _ hD2.1 hD2.2];exact hD1
  have hD4:w'.heap[w.heap.size]? =some (.deferred (some [])):=by
   rw[h5.block _ (zAx hD2.1 hext3.size) (hext3.owns _ hD2.1 hD2.2)];exact hD3
  have hsteps:Steps P (lone (am b a (.code (.rangeFunc g ps asg body)::k)) cs w) (lone (am b2 a ((jump.map Item.code).toList++k)) cs w3):=by
   refine .head hstep (Steps.trans hcomes (.head (step_leave_returned hleave) (.one ?_)))
   rw[am,finish_atR_inRangeFunc]
   exact stepR_endRangeFunc hrunE'
  refine⟨w',fr',r',H',ownm,β',Steps.trans hsteps h1,h2,h3,h4,(hE1.trans hext3).trans h5,h6,?_⟩
  rw[hrnd]
  refine⟨a1,⟨Ds++[w.heap.size],by rw[a2];simp[b2],?_,fun D hD=>?_⟩,a5⟩
  ·rw[List.nodup_append]
   refine⟨a3,by simp,fun x hx y hy=>?_⟩
   simp at hy;subst hy
   have:=(a4 x hx).1
   have h3s:w1.heap.size≤w3.heap.size:=hext3.size
   omega
  ·rw[zAt,zAq]at hD
   rcases hD with hD|rfl
   ·exact⟨by have:=(a4 D hD).1;have h3s:w1.heap.size≤w3.heap.size:=hext3.size;omega,(a4 D hD).2⟩
   ·exact⟨zAj _,hD4⟩
end Go.Ab
namespace Go.Ab
variable{P:Program}{f:FuncId}{R:z4b}{k:List Item}{all:Array Oper}{l:List Oper}
variable{n:Nat}{tm:List (Nat × PV)}{hp:Hp}{up:Hf}{d:Nat}{ty tx ty':TypeId}{pos:String}{aft:Array Edge}{gd:Option (Nat × Bool)}{x y:Operand}
section
variable{k0 k2:IntKind}{a b c:Int}{z:Operand}
theorem zlo(ha:0≤a)(hb:0<b)(hr:k0.wrap c=c)(he:a / b=c):Val P (.binOp .quo tx x y ty') ty [(x,I k0 a),(y,I k0 b)] [] (I k0 c):=by
 subst he;exact y2d ha hb hr
end
end Go.Ab
namespace Go.Ab
variable{P:Program}{f:FuncId}{R:z4b}{k:List Item}{all:Array Oper}{o:Oper}{l:List Oper}
variable{n:Nat}{tm:List (Nat × PV)}{hp:Hp}{up:Hf}{d:Nat}{ty:TypeId}{pos:String}{aft:Array Edge}{gd:Option (Nat × Bool)}{op:Op}{p:PV}
theorem zia{m:Nm}:∀ {tm:List (Nat × PV)},z42 m tm=false→z7y m tm=tm
 | [],_=>rfl
 | (t,p)::r,h=>by
  simp only[z42,Bool.or_eq_false_iff]at h
  rw[z7y,h.1,zia h.2];rfl
theorem bkN{e t:Nat}{b:Blk}(h:up e t=some b):BkE ⟨n,tm,hp,up⟩ [((e+1,t),b)]:=by
 simp only[BkE,List.map_cons,List.map_nil,List.cons.injEq,and_true];exact h
theorem zgc{fo:Operand}{args:List Operand}{m mv:Nm}{ps:List PV}{ats:Array TypeId}{up':Hf}(hsp:zhd P m ps (push hp up) (fun r H'=>r=.v p∧H'=push hp up') fun x=>x=(mv.1+1,mv.2))(hfo:St.ev ⟨n,tm,hp,up⟩ fo=some (.yl m))(hev:St.evs ⟨n,tm,hp,up⟩ args=some ps)
 (hq:z42 (mv.1+1,mv.2) tm=false) (hv:R.vol mv) (hd:d<n) (h:Ops P f R all l k ⟨n,(d,p)::tm,hp,up'⟩) :
 Op1 P f R all ⟨some d,.call ⟨.value fo,args.toArray,ats⟩,ty,pos,aft,gd⟩ l k ⟨n,tm,hp,up⟩:=by
 refine y0u hsp hfo hev (fun x e=>?_) hd fun r H hr=>?_
 ·have e1:=congrArg Prod.fst e
  have e2:=congrArg Prod.snd e
  have:x=mv:=Prod.ext (by simp at e1;omega) e2.symm
  rw[this];exact hv
 ·obtain⟨rfl,rfl⟩:=hr
  rw[zia hq]
  exact⟨p,hp,up',rfl,rfl,h⟩
end Go.Ab
namespace Go.Ab
variable{P:Program}{f:FuncId}{R:z4b}{k:List Item}{all:Array Oper}{o:Oper}{l:List Oper}
variable{n:Nat}{tm:List (Nat × PV)}{hp:Hp}{up:Hf}{d:Nat}{ty:TypeId}{pos:String}{aft:Array Edge}{gd:Option (Nat × Bool)}{op:Op}{p:PV}
def PV.give1(y:Nat)(m:Nm):PV→PV
 | .ptr q off=>if q == (0,y)then .ptr m off else .ptr q off
 | p=>p
def PV.giveF(y:Nat)(m:Nm):PV→PV
 | .fn g first cap=>.fn g (first.map (PV.give1 y m)) (cap.map (PV.give1 y m))
 | p=>p.give1 y m
def zi2(y:Nat)(m:Nm):List (Nat × PV)→List (Nat × PV)
 | []=>[]
 | (t,p)::r=>(t,if p.says m then .any else p.giveF y m)::zi2 y m r
theorem zdt{m:Nm}{y:Nat}:∀ {tm:List (Nat × PV)} {t:Nat},look (zi2 y m tm) t=(look tm t).map fun p=>if p.says m then .any else p.giveF y m
 | [],t=>rfl
 | (k,p)::r,t=>by
  simp only[zi2,look]
  split
  ·rfl
  ·exact zdt
theorem PR.give1{β:Nm→Value}{w:World}{own:Nat→Prop}{m:Nm}{y:Nat}(hm:β m=β (0,y)){p:PV}{v:Value}(h:PR β w own p v):PR β w own (p.give1 y m) v:=by
 cases p with
 | ptr q off =>
  simp only[PV.give1]
  split
  ·rename_i e;simp at e;subst e
   cases h with|ptr _ _ g hg=>exact .ptr _ _ g (by rw[hm];exact hg)
  ·exact h
 | _=>exact h
theorem PR.giveF{β:Nm→Value}{w:World}{own:Nat→Prop}{m:Nm}{y:Nat}(hm:β m=β (0,y)){p:PV}{v:Value}(h:PR β w own p v):PR β w own (p.giveF y m) v:=by
 cases p with
 | fn g first cap =>
  cases h with
  | fn _ _ _ fv cv h1 h2 h3 h4 =>
   refine .fn g _ _ fv cv (by simpa using h1) (by simpa using h2) (fun j x u hx hu=>?_) fun j x u hx hu=>?_
   ·rw[zAd]at hx
    cases hj:first[j]? with
    | none=>rw[hj]at hx;simp at hx
    | some z=>rw[hj]at hx;simp at hx;subst hx;exact(h3 j z u hj hu).give1 hm
   ·rw[zAd]at hx
    cases hj:cap[j]? with
    | none=>rw[hj]at hx;simp at hx
    | some z=>rw[hj]at hx;simp at hx;subst hx;exact(h4 j z u hj hu).give1 hm
 | _=>exact h.give1 hm
theorem zz6(y md ms:Nat){cs:List PV}{q:Blk}(hb:look hp y=some (.box cs))(hq0:q.lift (md+1)=.box cs)(hg:up md ms=some .gone)(hvol:R.vol (md,ms))(hq:z3u (md+1,ms) hp=true)(hup:za0 up (md,ms))
 (h:Run P f R k ⟨n,zi2 y (md+1,ms) tm,(y,.gone)::hp,upd up (md,ms) q⟩):Run P f R k ⟨n,tm,hp,up⟩:=by
 refine Run.stepV (s:=⟨n,tm,hp,up⟩) (s':=⟨n,zi2 y (md+1,ms) tm,(y,.gone)::hp,upd up (md,ms) q⟩) (fun β own a w hr b' fs=>?_) h
 let β':Nm→Value:=fun m=>if m=(md+1,ms)then β (0,y)else β m
 have hne:∀m,m≠(md+1,ms)→β' m=β m:=fun m hm=>by simp[β',hm]
 have hsame:β' (md+1,ms)=β' (0,y):=by simp[β']
 have hy:β' (0,y)=β (0,y):=hne _ (by simp)
 have hold:∀m c,z19 (push hp up) m=some c→c.says (md+1,ms)=false:=fun m c hc=>zdo (zfb (m:=(md,ms)) hq hup) hc
 have hgone:z19 (push hp up) (md+1,ms)=some .gone:=by simp[z19,push,hg,Blk.lift]
 have h1:HR (push hp up) β' own w:=by
  exact zD21
 refine⟨β',own,a,w,⟨hr.size,hr.defers,fun t p hp'=>?_,?_⟩,Ext.refl _ _,fun m hm=>?_,.refl _ _⟩
 ·simp only at hp'
  rw[zdt]at hp'
  cases hq':look tm t with
  | none=>rw[hq']at hp';cases hp'
  | some q1 =>
   rw[hq']at hp';simp at hp';subst hp'
   split
   ·exact .any _
   ·rename_i hs
    exact((hr.tm t q1 hq').reβ (md+1,ms) hne (by simpa using hs)).giveF hsame
 ·have hrow:z19 (push hp up) (0,y)=some (.box cs):=hb
  have key:∀m c,z19 (push ((y,.gone)::hp) (upd up (md,ms) q)) m=some c→c.live=true→(m=(md+1,ms)∧c=.box cs)∨(m≠(md+1,ms)∧m≠(0,y)∧z19 (push hp up) m=some c):=by
   intro m c hm hc
   rw[z2t]at hm
   by_cases e1:m=(0,y)
   ·rw[zAz e1]at hm;simp at hm;subst hm;cases hc
   ·rw[zAy e1,z6l,z3q]at hm
    by_cases e2:m=(md+1,ms)
    ·rw[zAz e2]at hm;simp[atF]at hm;rw[hq0]at hm;exact .inl ⟨e2,hm.symm⟩
    ·rw[zAy e2]at hm;exact .inr ⟨e2,e1,hm⟩
  refine⟨fun m c hm=>?_,fun m1 m2 c1 c2 e1 e2 l1 l2 hn g hg'=>?_,h1.lt⟩
  ·cases hc:c.live with
   | false=>cases c <;> first|(simp[Blk.live]at hc;done)|exact .gone _
   | true =>
    rcases key m c hm hc with⟨rfl,rfl⟩|⟨_,_,h3⟩
    ·rw[hsame];exact h1.blk _ _ hrow
    ·exact h1.blk m c h3
  ·rcases key m1 c1 e1 l1 with⟨rfl,rfl⟩|⟨n1,n1',h3⟩
   ·rcases key m2 c2 e2 l2 with⟨rfl,rfl⟩|⟨n2,n2',h4⟩
    ·exact absurd rfl hn
    ·rw[hsame]at hg'
     exact h1.inj (0,y) m2 _ c2 hrow h4 l1 l2 (Ne.symm n2') g hg'
   ·rcases key m2 c2 e2 l2 with⟨rfl,rfl⟩|⟨n2,n2',h4⟩
    ·rw[hsame]
     exact h1.inj m1 (0,y) c1 _ h3 hrow l1 l2 n1' g hg'
    ·exact h1.inj m1 m2 c1 c2 h3 h4 l1 l2 hn g hg'
 ·refine hne _ fun e=>hm ?_
  have e1:m.1+1=md+1:=(Prod.mk.inj e).1
  have e2:m.2=ms:=(Prod.mk.inj e).2
  have:m=(md,ms):=Prod.ext (by omega) e2
  subst this
  exact hvol
theorem zvw{fn:Func}{s:St}{t:Nat}(q:PV)(h:fn.results=#[.tmp t])(ht:look s.tm t=some (q.lift 1)):Res P fn s (.v q):=fun β own a w hrep =>
 ⟨a.tmps.getD t undef,own,by simp[results,h],Ext.refl _ _,hrep.heap.outer,.v _ _ ((hrep.tm t _ ht).low q rfl)⟩
theorem zhi(y:Nat)(h:Run P f R k ⟨n,tm,(y,.gone)::hp,up⟩):Run P f R k ⟨n,tm,hp,up⟩:=by
 refine Run.le (s:=⟨n,tm,(y,.gone)::hp,up⟩) (fun β own ac w hr=>⟨β,rfl,hr.size,hr.defers,hr.tm,?_⟩) h
 have:=hr.heap.drop (0,y)
 refine⟨fun m c hm=>?_,fun m1 m2 c1 c2 h1 h2 l1 l2 hn'=>?_,this.lt⟩
 ·rw[z2t]at hm
  by_cases e:m=(0,y)
  ·rw[zAz e]at hm;simp at hm;subst hm;exact .gone _
  ·rw[zAy e]at hm;exact hr.heap.blk m c hm
 ·have key:∀m c,z19 (push ((y,.gone)::hp) up) m=some c→c.live=true→z19 (push hp up) m=some c:=by
   intro m c hm hc
   rw[z2t]at hm
   by_cases e:m=(0,y)
   ·rw[zAz e]at hm;simp at hm;subst hm;cases hc
   ·rw[zAy e]at hm;exact hm
  exact hr.heap.inj m1 m2 c1 c2 (key m1 c1 h1 l1) (key m2 c2 h2 l2) l1 l2 hn'
theorem zbi{m:Nm}:∀ {tm:List (Nat × PV)} {t:Nat} {q:PV},z42 m tm=false→look tm t=some q→q.says m=false
 | [],t,q,_,h=>by simp[look]at h
 | (k,p)::r,t,q,hs,h=>by
  simp only[z42,Bool.or_eq_false_iff]at hs
  simp only[look]at h
  split at h
  ·simp at h;subst h;exact hs.1
  ·exact zbi hs.2 h
theorem zl3{g:FuncId}{args:List Operand}{ps:List PV}{ats:Array TypeId}{a b:Nat}{hp':Hp}{up':Hf}(hsp:z9r P g ps (push hp up) ⟨fun r H'=>r=.v p∧H'=push hp' up',fun x=>x=(0,a)∨x=(0,b),none⟩)(hev:St.evs ⟨n,tm,hp,up⟩ args=some ps)
 (hqa:z42 (0,a) tm=false) (hqb:z42 (0,b) tm=false) (hd:d<n) (h:Ops P f R all l k ⟨n,(d,p)::tm,hp',up'⟩) :
 Op1 P f R all ⟨some d,.call ⟨.value (.func g),args.toArray,ats⟩,ty,pos,aft,gd⟩ l k ⟨n,tm,hp,up⟩:=by
 refine zl6 (g:=g) fun β own ac w hr=>?_
 obtain⟨vals,hrun,hargs⟩:=z7g (first:=[]) (cap:=[]) hr (fo:=.func g) rfl hev hsp.plain (dst:=some d) (ats:=ats) (ty:=ty) (pos:=pos) (aft:=aft) (gd:=gd)
 refine⟨vals.toArray,w,own,hrun,Ext.refl _ _,(hsp.run β own w vals hr.heap (by simpa using hargs)).mono fun e w' hfin=>?_⟩
 obtain⟨v,r,H,own',β',he,⟨hr1,hH⟩,hrv,hheap,hext,hβ⟩:=hfin
 subst hr1
 cases hrv with
 | v _ _ hpv =>
  refine⟨v,β',own',_,he,?_,hext,fun x hx=>hβ _ fun e=>?_,h⟩
  ·have hr':Rep ⟨n,tm,hp',up'⟩ β' own' ac w':=by
    refine⟨hr.size,hr.defers,fun t q hq'=>?_,by rw[←hH];exact hheap⟩
    simp only at hq'
    let β1:Nm→Value:=fun x=>if x=(0,a)then β' (0,a)else β x
    have h1:=((hr.tm t q hq').mono hext).reβ (β':=β1) (0,a) (fun m hm=>by simp[β1,hm]) (zbi hqa hq')
    refine h1.reβ (β':=β') (0,b) (fun m hm=>?_) (zbi hqb hq')
    by_cases e:m=(0,a)
    ·subst e;simp[β1]
    ·simp only[β1,e,if_false]
     exact hβ m fun hv=>hv.elim e hm
   exact zD85
  ·rcases e with e|e <;> simp at e
end Go.Ab
namespace Go.Ab
variable{P:Program}{f:FuncId}{R:z4b}{k:List Item}{all:Array Oper}{o:Oper}{l:List Oper}
variable{n:Nat}{tm:List (Nat × PV)}{hp:Hp}{up:Hf}{d:Nat}{ty:TypeId}{pos:String}{aft:Array Edge}{gd:Option (Nat × Bool)}{op:Op}{p:PV}
theorem zxn{g:FuncId}{fo:Operand}{args:List Operand}(first cap ps:List PV){ats:Array TypeId}(hsp:Spec P g (first++ps++cap) (push hp up) fun r H'=>r=.v p∧H'=push hp up)(hfo:St.ev ⟨n,tm,hp,up⟩ fo=some (.fn (.func g) first cap))(hev:St.evs ⟨n,tm,hp,up⟩ args=some ps)
 (hd:d<n) (h:Ops P f R all l k ⟨n,(d,p)::tm,hp,up⟩) :
 Op1 P f R all ⟨some d,.call ⟨.value fo,args.toArray,ats⟩,ty,pos,aft,gd⟩ l k ⟨n,tm,hp,up⟩:=by
 refine zl6 (g:=g) fun β own ac w hr=>?_
 obtain⟨vals,hrun,hargs⟩:=z7g hr hfo hev hsp.plain (dst:=some d) (ats:=ats) (ty:=ty) (pos:=pos) (aft:=aft) (gd:=gd)
 refine⟨vals.toArray,w,own,hrun,Ext.refl _ _,(hsp.run β own w vals hr.heap hargs).mono fun e w' hfin=>?_⟩
 obtain⟨v,r,H,own',he,⟨hr1,hH⟩,hrv,hheap,hext⟩:=hfin
 subst hr1
 cases hrv with
 | v _ _ hpv =>
  refine⟨v,β,own',_,he,?_,hext,fun x hx=>rfl,h⟩
  have hr':Rep ⟨n,tm,hp,up⟩ β own' ac w':=⟨hr.size,hr.defers,fun t q hq'=>(hr.tm t q hq').mono hext,by rw[←hH];exact hheap⟩
  exact zD85
theorem zd2{H:Hf}{a b:Nm}{p q:Blk}(h:a≠b):upd (upd H a p) b q=upd (upd H b q) a p:=by
 funext d s
 simp only[upd]
 by_cases h1:d=b.1∧s=b.2
 ·rw[zAz h1,zAz h1,zAy fun h2=>h (Prod.ext (h2.1.symm.trans h1.1) (h2.2.symm.trans h1.2))]
 ·rw[zAy h1,zAy h1]
end Go.Ab
namespace Go.Ab
variable{P:Program}{ty tx ty':TypeId}{x y z:Operand}
theorem z1d.ptr{t:TypeId}{ti:TI}(h:z1d P t ti){e:TypeId}(hk:ti.kind=.ptr e):P.underlying t=some (.pointer (P.pointee t)):=by
 have h0:P.underlying t=some (.pointer e):=by
  exact zD41
 have:P.pointee t=e:=by simp[Program.pointee,h0]
 rw[this];exact h0
end Go.Ab
namespace Go.Ab
variable{P:Program}{f:FuncId}{R:z4b}{k:List Item}{all:Array Oper}{o:Oper}{l:List Oper}
variable{n:Nat}{tm:List (Nat × PV)}{hp:Hp}{up:Hf}{d:Nat}
section
variable{ty:TypeId}{pos:String}{aft:Array Edge}{gd:Option (Nat × Bool)}{p:PV}{g:FuncId}{args:List Operand}{ps:List PV}{ats:Array TypeId}{bs:List (Nm × Blk)}
theorem z4u(hsp:z1v P g ps bs [] p)(hev:St.evs ⟨n,tm,hp,up⟩ args=some ps)(hbs:BkE ⟨n,tm,hp,up⟩ bs)(hd:d<n)(h:Ops P f R all l k ⟨n,(d,p)::tm,hp,up⟩) :
 Op1 P f R all ⟨some d,.call ⟨.value (.func g),args.toArray,ats⟩,ty,pos,aft,gd⟩ l k ⟨n,tm,hp,up⟩:=zj7 hsp hev hbs hd rfl h
theorem zjd{id:Nat}{ops:List Oper}{s0:St}{done:List Eff}{gr:List (Nat × PV)}(hsp:z1v P g ps bs [] p)(hg:GOK ops.toArray gd gr ⟨n,tm,hp,up⟩)
 (hev:St.evs ⟨n,tm,hp,up⟩ args=some ps) (hbs:BkE ⟨n,tm,hp,up⟩ bs) (hd:d<n)
 (h:Tr P f R id ops k s0 (done++[⟨gr++rd (args.zip ps),bs,[],[(d,p)],[]⟩]) ⟨n,(d,p)::tm,hp,up⟩ l) :
 Tr P f R id ops k s0 done ⟨n,tm,hp,up⟩ (⟨some d,.call ⟨.value (.func g),args.toArray,ats⟩,ty,pos,aft,gd⟩::l):=zcj hsp hg hev hbs hd rfl h
end
end Go.Ab
namespace Go.Ab
variable{P:Program}{f:FuncId}{R:z4b}{k:List Item}{all:Array Oper}{o:Oper}{l:List Oper}
variable{n:Nat}{tm:List (Nat × PV)}{hp:Hp}{up:Hf}{d:Nat}{ty:TypeId}{pos:String}{aft:Array Edge}{gd:Option (Nat × Bool)}{op:Op}{p:PV}
theorem znr{s:St}{t e:TypeId}{ti te:TI}(ht:z1d P t ti)(he:z1d P e te)(hk:ti.kind=.slice e){x y:Operand}{k1 k2:IntKind}{a c:Int}(hx:s.ev x=some (I k1 a))(hy:s.ev y=some (I k2 c))(h0:0≤a)(hac:a≤c)(ha:c≤137438953472)(hb:te.bytes≤1024)(hz:te.zero.all (·.oneCell')=true)
 (hz1:te.zero.length=te.size) (hz2:te.size≠0) (hf:(z1k d s.hp&&z1q d s.tm)=true) (hd:d<s.n) :
 z1z P ⟨some d,.makeSlice t x y,ty,pos,aft,gd⟩ s (s.app ⟨[],[],[],[(d,.ref (0,d))],[((0,d),.row e te.size (List.replicate a.toNat (te.zero.map zey)))]⟩):=by
 obtain⟨n,tm,hp,up⟩:=s
 intro β own ac w hr
 obtain⟨i,u,z,hi,hu,hiz,his,hib,hku,hzc,_⟩:=he.get
 have hsm:=z5m (b:=te.bytes) (c:=c.toNat) hb (by omega)
 have hby:(i.bytes:Int)*c≤281474976710656:=by
  have h1:(te.bytes:Int)*c=((c.toNat*te.bytes:Nat):Int):=by rw[Int.natCast_mul,Int.toNat_of_nonneg (by omega),Int.mul_comm]
  rw[hib,h1];omega
 have hrun:=run_make (P:=P) w t e i z (ht.slice hk) hi hiz k1 k2 a c h0 hac hby (by omega)
 have hE:=Ext.alloc w own (.cells (madeCells z.cells (c.toNat*i.size)) e)
 have hzsz:z.cells.size=te.size:=by rw[←hz1,←hzc];simp
 have hget:∀i' j,i'<c.toNat→j<te.size→(madeCells z.cells (c.toNat*i.size)).toList[i'*te.size+j]? =te.zero[j]?:=by
  intro i' j hi' hj
  have hlt:i'*te.size+j<c.toNat*te.size:=by
   have:(i'+1)*te.size≤c.toNat*te.size:=Nat.mul_le_mul_right _ hi'
   rw[Nat.add_mul]at this;omega
  exact zD16
 have hlen:(madeCells z.cells (c.toNat*i.size)).toList.length=c.toNat*te.size:=by simp[size_madeCells,his]
 have hle:a.toNat≤c.toNat:=by omega
 have hmul:a.toNat*te.size≤c.toNat*te.size:=Nat.mul_le_mul_right _ hle
 have hlent:((madeCells z.cells (c.toNat*i.size)).toList.take (a.toNat*te.size)).length=a.toNat*te.size:=by rw[zAm,hlen];omega
 have hgett:∀i' j,i'<a.toNat→j<te.size→((madeCells z.cells (c.toNat*i.size)).toList.take (a.toNat*te.size))[i'*te.size+j]? =te.zero[j]?:=by
  intro i' j hi' hj
  have hlt:i'*te.size+j<a.toNat*te.size:=by
   have:(i'+1)*te.size≤a.toNat*te.size:=Nat.mul_le_mul_right _ hi'
   rw[Nat.add_mul]at this;omega
  rw[List.getElem?_take,zAz hlt]
  exact hget i' j (by omega) hj
 have hrow:z9n (w.alloc (.cells (madeCells z.cells (c.toNat*i.size)) e)) (fun g=>own g∨g=w.heap.size) te.size (List.replicate a.toNat (te.zero.map zey)) ((madeCells z.cells (c.toNat*i.size)).toList.take (a.toNat*te.size)):=by
  refine⟨fun x hx=>?_,by rw[zAr];exact hlent,fun v hv=>?_,fun i' x hx' j y hy'=>?_⟩
  ·rw[List.mem_replicate]at hx;rw[hx.2];simp[hz1]
  ·obtain⟨j,hj⟩:=zAw hv
   have hjl:=(zA1.1 hj).1
   rw[hlent]at hjl
   have h2:=hgett (j / te.size) (j % te.size) ((Nat.div_lt_iff_lt_mul (by omega)).2 hjl) (Nat.mod_lt _ (by omega))
   rw[Nat.div_add_mod' j te.size,hj]at h2
   rw[List.all_eq_true]at hz
   exact hz v (zA2 h2.symm)
  ·have hi'':=(zA1.1 hx').1
   rw[zAr]at hi''
   rw[List.getElem?_replicate,zAz hi'']at hx'
   simp at hx';subst hx'
   rw[zAd]at hy'
   cases hq:te.zero[j]? with
   | none=>rw[hq]at hy';cases hy'
   | some u =>
    rw[hq]at hy';simp at hy';subst hy'
    refine⟨u,by rw[hgett i' j hi'' (by have:=(zA1.1 hq).1;omega)];exact hq,?_⟩
    rw[List.all_eq_true]at hz
    exact .zey (hz u (zA2 hq))
 have hin:=hr.install (d:=d) hf hE (fun g hg=>by rcases hg with hg|rfl;exact zAx (hr.heap.lt g hg) (by simp);simp) (v:=.slice (some ⟨w.heap.size,0,none⟩) a.toNat c.toNat) (b:=.row e te.size (List.replicate a.toNat (te.zero.map zey)))
  (z6m hr.heap _ _ _ rfl)
  (.row _ e te.size _ _ (fun g hg=>by simp[Value.ownBlock]at hg;exact .inr hg.symm) (by omega)
    ⟨by rw[zAr];exact hlent,.inr ⟨w.heap.size,c.toNat,_,by rw[zAr],zAf _,z5l w _,by rw[zAr];exact hle,by unfold maxLen;omega,hlen,by rw[zAr]⟩⟩ hrow)
 refine⟨_,.slice (some ⟨w.heap.size,0,none⟩) a.toNat c.toNat,_,z69 β d (.slice (some ⟨w.heap.size,0,none⟩) a.toNat c.toNat),_,?_,.inl rfl,?_,hE,z3a _ _ _⟩
 ·simp only[execOp,(hr.ev hx).lit,(hr.ev hy).lit]
  simp[hrun]
 ·have hp':=PR.ref (β:=z69 β d (.slice (some ⟨w.heap.size,0,none⟩) a.toNat c.toNat)) (w:=w.alloc (.cells (madeCells z.cells (c.toNat*i.size)) e)) (own:=fun g=>own g∨g=w.heap.size) (0,d)
  rw[z2d]at hp'
  exact hin.put (dst:=some d) (p:=.ref (0,d)) (by simpa[St.fits]using hd) hp'
section
variable{t e:TypeId}{ti te:TI}{x y:Operand}{k1 k2:IntKind}{a c:Int}{xs:List (List D)}
theorem zym [ht:z1d P t ti][he:z1d P e te](hk:ti.kind=.slice e)(hev:St.evs ⟨n,tm,hp,up⟩ [x,y]=some [I k1 a,I k2 c])(h0:0≤a)(hac:a≤c)(ha:c≤137438953472)(hb:decide (te.bytes≤1024)=true)(hz:z8l te 0=true)(hfr:(z1k d hp&&z1q d tm)=true)(hd:d<n)
 (hxs:List.replicate a.toNat (te.zero.map zey)=xs) (h:Ops P f R all l k ⟨n,(d,.ref (0,d))::tm,(d,.row e te.size xs)::hp,up⟩):Op1 P f R all ⟨some d,.makeSlice t x y,ty,pos,aft,gd⟩ l k ⟨n,tm,hp,up⟩:=by
 obtain⟨h1,h2,_⟩:=evE (xs:=[(x,I k1 a),(y,I k2 c)]) hev
 simp only[z8l,zA7,beq_iff_eq,bne_iff_ne]at hz
 subst hxs
 exact z0b (znr (P:=P) (d:=d) ht he hk (s:=⟨n,tm,hp,up⟩) h1 h2 h0 hac ha (by simpa using hb) hz.1.1.1 hz.1.1.2 hz.1.2 hfr hd) h
end
end Go.Ab
namespace Go.Ab
variable{P:Program}{n:Nat}{tm:List (Nat × PV)}{hp:Hp}{up:Hf}{d:Nat}{ty:TypeId}{pos:String}{aft:Array Edge}{gd:Option (Nat × Bool)}
theorem zyc{x:Operand}{src dst:TypeId}{k k':IntKind}{b c:Int}{t1 t2:TI}[h1:z1d P src t1][h2:z1d P dst t2](hk:t2.kind=.int k')(hk1:t1.kind=.int k)(hx:St.ev ⟨n,tm,hp,up⟩ x=some (I k b))(hd:d<n)(hr:k'.wrap b=c) :
 z1z P ⟨some d,.convert src dst x,ty,pos,aft,gd⟩ ⟨n,tm,hp,up⟩ ⟨n,(d,I k' c)::tm,hp,up⟩ :=
 z1c rfl hd fun β own a w hrep=>⟨.int k' c,by
  simp[execOp,(hrep.ev hx).lit,convert,run_underlying (h2.int hk),run_underlying (h1.int hk1),Conv.intToInt,hr],.I _ _⟩
theorem zjw{x:Operand}{src dst:TypeId}{k k':IntKind}{b c:Int}{t1 t2:TI}[h1:z1d P src t1][h2:z1d P dst t2](hk:t2.kind=.int k')(hk1:t1.kind=.int k)(hr:k'.wrap b=c) :
 Val P (.convert src dst x) ty [(x,I k b)] [] (I k' c):=fun d pos aft gd n tm hp up hd hx hb=>zyc hk hk1 hx.1 hd hr
end Go.Ab
namespace Go.Ab
theorem z3w(H:Hf)(m:Nm)(b:Blk):upd H m b m.1 m.2=some b:=by simp[upd]
theorem z3l(H:Hf)(m:Nm)(b c:Blk):upd (upd H m b) m c=upd H m c:=by
 funext d s;simp only[upd];split <;> rfl
theorem z92(H:Hf)(m q:Nm)(b:Blk)(h:q≠m):upd H m b q.1 q.2=H q.1 q.2:=by
 simp only[upd]
 rw[zAy]
 rintro⟨h1,h2⟩
 exact h (Prod.ext h1 h2)
end Go.Ab
namespace Go.Ab
open Go.RowKit
variable{P:Program}{f:FuncId}{R:z4b}{k:List Item}{all:Array Oper}{o:Oper}{l:List Oper}
variable{n:Nat}{tm:List (Nat × PV)}{hp:Hp}{up:Hf}{d:Nat}{ty:TypeId}{pos:String}{aft:Array Edge}{gd:Option (Nat × Bool)}{op:Op}{p:PV}
theorem Ext.of_below{w w':World}{own:Nat→Prop}(h:Below w.heap.size w w'):Ext w own w' own:=⟨h.os,h.tape,h.output,h.size,fun b hb _=>h.block b hb,fun _ _ h=>h⟩
theorem HR.of_below{H:Hf}{β:Nm→Value}{own:Nat→Prop}{w w':World}(h:HR H β own w)(hb:Below w.heap.size w w'):HR H β own w':=by
 refine⟨fun q b hq=>?_,h.inj,fun g hg=>zAx (h.lt g hg) hb.size⟩
 have hk:=h.blk q b hq
 cases hl:b.live with
 | false=>cases b <;> first|(simp[Blk.live]at hl;done)|exact .gone _
 | true=>exact hk.kept (Ext.of_below hb) fun lb g hg=>⟨hb.block g (h.lt g (hk.block_lt lb hg)),hk.block_lt lb hg⟩
theorem zj4{g:FuncId}{ps:List PV}{bs:List (Nm × Blk)}{p:PV}(hp:Plain P g)
 (h:∀(H:Hf),(∀q∈bs,H q.1.1 q.1.2=some q.2)→∀β own w vals,HR H β own w→z8g β w own ps vals→∃v,Calls P g vals.toArray w (fun e w'=>e=.returned v∧Below w.heap.size w w')∧∀w' own',PR β w' own' p v):z1v P g ps bs [] p :=
 zoj hp fun H hH β own w vals hHR hA=>by
  obtain⟨v,hc,hv⟩:=h H hH β own w vals hHR hA
  refine hc.mono ?_
  rintro e w' ⟨rfl,hb⟩
  exact⟨v,_,H,own,rfl,⟨rfl,rfl⟩,.v _ _ (hv w' own),hHR.of_below hb,Ext.of_below hb⟩
theorem z2j{m:Nm}{b:Blk}{bs:List (Nm × Blk)}{s:St}(h:z5e s m=some b)(h':BkE s bs):BkE s ((m,b)::bs):=by
 simp only[BkE,List.map_cons,List.cons.injEq]at *
 exact⟨h,h'⟩
theorem z8m{s:St}:BkE s []:=rfl
section
variable{g:FuncId}{args:List Operand}{ps:List PV}{ats:Array TypeId}{md ms:Nat}{b b':Blk}{bs:List (Nm × Blk)}
theorem z5r(hsp:z1v P g ps (((md+1,ms),b)::bs) [((md+1,ms),b')] p)(hev:St.evs ⟨n,tm,hp,up⟩ args=some ps)(hb:up md ms=some b)(hbs:BkE ⟨n,tm,hp,up⟩ bs)(hd:d<n)
 (h:Ops P f R all l k ⟨n,(d,p)::tm,hp,upd up (md,ms) b'⟩):Op1 P f R all ⟨some d,.call ⟨.value (.func g),args.toArray,ats⟩,ty,pos,aft,gd⟩ l k ⟨n,tm,hp,up⟩ :=
 zj7 hsp hev (z2j (m:=(md+1,ms)) hb hbs) hd rfl h
end
end Go.Ab
namespace Go.Ab
variable{P:Program}
theorem zaw{src dst:TypeId}{ty:TypeId}{x:Operand}{k:IntKind}{b:Int}{t1 t2:TI}[h1:z1d P src t1][h2:z1d P dst t2](hk:t2.kind=.str)(hk1:t1.kind=.int k) :
 Val P (.convert src dst x) ty [(x,I k b)] [] (S (Utf8.encode b)):=fun d pos aft gd n tm hp up hd hx hb =>
 z1c rfl hd fun β own a w hrp=>⟨.string (Utf8.encode b),by
  simp only[execOp,(hrp.ev hx.1).lit]
  simp[convert,run_underlying (h1.int hk1),run_underlying (h2.str hk),Conv.intToString],.S _⟩
end Go.Ab
namespace Go.Ab
variable{P:Program}{f:FuncId}{R:z4b}{k:List Item}{all:Array Oper}{l:List Oper}
variable{n:Nat}{tm:List (Nat × PV)}{hp:Hp}{up:Hf}
def Wk:List PV→List PV→Prop
 | [],[]=>True
 | p::ps,q::qs=>(q=p∨q=.any)∧Wk ps qs
 | _,_=>False
theorem Wk.len:∀ {ps qs:List PV},Wk ps qs→qs.length=ps.length
 | [],[],_=>rfl
 | p::ps,q::qs,h=>by simp[Wk.len h.2]
 | [],_::_,h=>h.elim
 | _::_,[],h=>h.elim
theorem Wk.get{β:Nm→Value}{w:World}{own:Nat→Prop}{d:Nat}:∀ {ps qs:List PV},Wk ps qs→∀(cur:List Value),(∀(j:Nat) (x:PV) (v:Value),(PV.liftL d ps)[j]? =some x→cur[j]? =some v→PR β w own x v)→∀(j:Nat) (x:PV) (v:Value),(PV.liftL d qs)[j]? =some x→cur[j]? =some v→PR β w own x v
 | [],[],_,cur,h,j,x,v,hx,hv=>by simp[PV.liftL]at hx
 | p::ps,q::qs,hw,cur,h,0,x,v,hx,hv=>by
  simp only[PV.liftL,List.getElem?_cons_zero,zAh]at hx
  subst hx
  rcases hw.1 with rfl|rfl
  ·exact h 0 _ v (by simp[PV.liftL]) hv
  ·exact .any v
 | p::ps,q::qs,hw,cur,h,j+1,x,v,hx,hv=>by
  simp only[PV.liftL,List.getElem?_cons_succ]at hx
  cases cur with
  | nil=>simp at hv
  | cons c cur=>exact Wk.get hw.2 cur (fun j x v hx hv=>h (j+1) x v (by simpa[PV.liftL]using hx) (by simpa using hv)) j x v hx (by simpa using hv)
 | [],_::_,h,_,_,_,_,_,_,_=>h.elim
 | _::_,[],h,_,_,_,_,_,_,_=>h.elim
end Go.Ab
namespace Go.Ab
variable{P:Program}{f:FuncId}{R:z4b}{k:List Item}{all:Array Oper}{l:List Oper}
variable{n:Nat}{tm:List (Nat × PV)}{hp:Hp}{up:Hf}{d:Nat}{ty:TypeId}{pos:String}{aft:Array Edge}{gd:Option (Nat × Bool)}{p:PV}
theorem z5j{t:TypeId}{ti:TI}[ht:z1d P t ti]{x:Operand}{md ms off:Nat}{b:Blk}{cs:List PV}(hev:EvE ⟨n,tm,hp,up⟩ [(x,.ptr (md+1,ms) off)])(hb:up md ms=some b)(hc:atF (md+1,ms) b=.box cs)(hy:cs[off]? =some p)(hs:ti.size=1)(ha:ti.agg=false)(hd:d<n)
 (h:Ops P f R all l k ⟨n,(d,p)::tm,hp,up⟩):Op1 P f R all ⟨some d,.load t x,ty,pos,aft,gd⟩ l k ⟨n,tm,hp,up⟩ :=
 zns (zqu (m:=(md+1,ms)) (b:=b) hc hy hs ha) hev (bkN hb) hd h
theorem zrz{id:Nat}{ops:List Oper}{s0:St}{done:List Eff}{gr:List (Nat × PV)}{t:TypeId}{ti:TI}[ht:z1d P t ti]{x:Operand}{md ms off:Nat}{b:Blk}{cs:List PV}(hg:GOK ops.toArray gd gr ⟨n,tm,hp,up⟩)(hev:EvE ⟨n,tm,hp,up⟩ [(x,.ptr (md+1,ms) off)])(hb:up md ms=some b)(hc:atF (md+1,ms) b=.box cs)(hy:cs[off]? =some p)(hs:ti.size=1)(ha:ti.agg=false)(hd:d<n)
 (h:Tr P f R id ops k s0 (done++[⟨gr++rd [(x,.ptr (md+1,ms) off)],[((md+1,ms),b)],[],[(d,p)],[]⟩]) ⟨n,(d,p)::tm,hp,up⟩ l):Tr P f R id ops k s0 done ⟨n,tm,hp,up⟩ (⟨some d,.load t x,ty,pos,aft,gd⟩::l) :=
 zos (zqu (m:=(md+1,ms)) (b:=b) hc hy hs ha) hg hev (bkN hb) hd h
end Go.Ab
namespace Go.Ab
variable{P:Program}
theorem zav{s:St}{β:Nm→Value}{own:Nat→Prop}{a:Act}{w:World}(hrep:Rep s β own a w){t ms:Nat}{ty:TypeId}{ti:TI}[hty:z1d P ty ti]{x:D}(ht:look s.tm t=some (.ptr (0,ms) 0))(hb:look s.hp ms=some (.box [.d x]))(hs:ti.size=1)(ha:ti.agg=false) :
 ∃g v,a.tmps[t]?.getD undef=.pointer (some ⟨g,0,none⟩)∧(loadVar ty ⟨g,0,none⟩).run P w=.ok v w∧PR β w own (.d x) v:=by
 have hp:=hrep.tm t _ ht
 obtain⟨g,tt,cur,hβ,ho,hg,hl0,h1,hd0⟩:=hrep.box (m:=(0,ms)) hb
 obtain⟨c,rfl⟩:∃c,cur=[c]:=by
  cases cur with
  | nil=>simp at hl0
  | cons c r=>cases r with
   | nil=>exact⟨c,rfl⟩
   | cons _ _=>simp at hl0
 refine⟨g,c,?_,?_,hd0 0 _ c rfl rfl⟩
 ·rw[←Array.getD_eq_getD_getElem?]
  generalize a.tmps.getD t undef=v at hp
  cases hp with
  | ptr _ _ g' hg'=>rw[hβ]at hg';simp at hg';subst hg';rfl
 ·have:=z27 (P:=P) hty g 0 [c] w (by simp[hs]) (fun j v hj=>by
   rw[Nat.zero_add,cell_of_row w g j _ tt (0,0) hg];simpa using hj)
  rcases this with h'|h'
  ·simpa[ha]using h'
  ·exact absurd hs h'.2
theorem ziq{fn:Func}{s:St}{t1 t2 t3 t4 m1 m2 m3 m4:Nat}{y1 y2 y3 y4:TypeId}{i1 i2 i3 i4:TI}{x1 x2 x3 x4:D}[h1:z1d P y1 i1][h2:z1d P y2 i2][h3:z1d P y3 i3][h4:z1d P y4 i4](h:fn.results=#[.cell t1 y1,.cell t2 y2,.cell t3 y3,.cell t4 y4])
 (a1:look s.tm t1=some (.ptr (0,m1) 0)) (a2:look s.tm t2=some (.ptr (0,m2) 0)) (a3:look s.tm t3=some (.ptr (0,m3) 0)) (a4:look s.tm t4=some (.ptr (0,m4) 0)) (b1:look s.hp m1=some (.box [.d x1])) (b2:look s.hp m2=some (.box [.d x2])) (b3:look s.hp m3=some (.box [.d x3])) (b4:look s.hp m4=some (.box [.d x4]))
 (s1:i1.size=1) (s2:i2.size=1) (s3:i3.size=1) (s4:i4.size=1) (g1:i1.agg=false) (g2:i2.agg=false) (g3:i3.agg=false) (g4:i4.agg=false) :
 Res P fn s (.v (.tup [.d x1,.d x2,.d x3,.d x4])):=fun β own a w hrep=>by
 obtain⟨p1,v1,e1,l1,r1⟩:=zav (P:=P) hrep (ty:=y1) a1 b1 s1 g1
 obtain⟨p2,v2,e2,l2,r2⟩:=zav (P:=P) hrep (ty:=y2) a2 b2 s2 g2
 obtain⟨p3,v3,e3,l3,r3⟩:=zav (P:=P) hrep (ty:=y3) a3 b3 s3 g3
 obtain⟨p4,v4,e4,l4,r4⟩:=zav (P:=P) hrep (ty:=y4) a4 b4 s4 g4
 refine⟨.tuple #[v1,v2,v3,v4],own,?_,Ext.refl _ _,hrep.heap.outer,?_⟩
 ·simp[results,h,e1,e2,e3,e4,asAddr,l1,l2,l3,l4]
 ·refine .v _ _ (.tup [.d x1,.d x2,.d x3,.d x4] [v1,v2,v3,v4] rfl fun j p v hp hv=>?_)
  match j with
  | 0=>simp only[List.getElem?_cons_zero,zAh]at hp hv;subst hp hv;exact r1.low (.d x1) rfl
  | 1=>simp only[List.getElem?_cons_succ,List.getElem?_cons_zero,zAh]at hp hv;subst hp hv;exact r2.low (.d x2) rfl
  | 2=>simp only[List.getElem?_cons_succ,List.getElem?_cons_zero,zAh]at hp hv;subst hp hv;exact r3.low (.d x3) rfl
  | 3=>simp only[List.getElem?_cons_succ,List.getElem?_cons_zero,zAh]at hp hv;subst hp hv;exact r4.low (.d x4) rfl
  | j+4=>simp at hp
theorem zjl{fn:Func}{s:St}{t m:Nat}{y:TypeId}{i:TI}{x:D}[h1:z1d P y i](h:fn.results=#[.cell t y])(a1:look s.tm t=some (.ptr (0,m) 0))(b1:look s.hp m=some (.box [.d x]))(s1:i.size=1)(g1:i.agg=false):Res P fn s (.v (.d x)):=fun β own a w hrep=>by
 obtain⟨p1,v1,e1,l1,r1⟩:=zav (P:=P) hrep (ty:=y) a1 b1 s1 g1
 refine⟨v1,own,?_,Ext.refl _ _,hrep.heap.outer,.v _ _ (r1.low (.d x) rfl)⟩
 simp[results,h,e1,asAddr,l1]
end Go.Ab
namespace Go.Ab
variable{P:Program}
theorem zce{fn:Func}{s:St}{t u q ms:Nat}{ty:TypeId}{ti:TI}{x y:D}[hty:z1d P ty ti]{cs:List PV}{ds:List D}(h:fn.results=#[.cell t ty,.tmp u,.tmp q])(ht:look s.tm t=some (.ptr (0,ms) 0))(hu:look s.tm u=some (.d x))(hq:look s.tm q=some (.d y))(hb:look s.hp ms=some (.box cs))(hds:z8d cs=some ds)(hs:ds.length=ti.size)(ha:ti.agg=true) :
 Res P fn s (.v (.tup [.d (.agg ds),.d x,.d y])):=fun β own a w hrep=>by
 have hp:=hrep.tm t _ ht
 have hpu:=hrep.tm u _ hu
 have hpq:=hrep.tm q _ hq
 obtain⟨g,tt,cur,hβ,ho,hg,hl0,h1,hd0⟩:=hrep.box (m:=(0,ms)) hb
 obtain⟨hl,_,hd⟩:=z5x (own:=own) (w:=w) (β:=β) ⟨hl0,h1,hd0⟩ hds
 refine⟨.tuple #[.agg cur.toArray,a.tmps.getD u undef,a.tmps.getD q undef],own,?_,Ext.refl _ _,hrep.heap.outer,?_⟩
 ·exact zD8
 ·refine .v _ _ (.tup [.d (.agg ds),.d x,.d y] [.agg cur.toArray,a.tmps.getD u undef,a.tmps.getD q undef] rfl fun j p v hp hv=>?_)
  match j with
  | 0 =>
   simp only[List.getElem?_cons_zero,zAh]at hp hv;subst hp hv
   exact zD83
  | 1=>simp only[List.getElem?_cons_succ,List.getElem?_cons_zero,zAh]at hp hv;subst hp hv;exact hpu.low (.d x) rfl
  | 2=>simp only[List.getElem?_cons_succ,List.getElem?_cons_zero,zAh]at hp hv;subst hp hv;exact hpq.low (.d y) rfl
  | j+3=>simp at hp
end Go.Ab
namespace Go.Ab
theorem zx6:IntKind.u64.bits=64:=rfl
theorem zv6(a:Nat)(h:a<2 ^ 64):(BitVec.ofInt IntKind.u64.bits (a:Int)).toNat=a:=by
 show(BitVec.ofInt 64 (a:Int)).toNat=a
 rw[BitVec.ofInt_natCast,BitVec.toNat_ofNat]
 exact Nat.mod_eq_of_lt h
theorem zzm{a b:Nat}(ha:a<2 ^ 64)(hb:b<2 ^ 64):zqe .u64 a b=((a &&& b:Nat):Int):=by
 rw[zqe,BitVec.toNat_and,zv6 a ha,zv6 b hb]
 have:=Nat.and_le_left (n:=a) (m:=b)
 exact y3a (by omega) (by omega)
theorem y0b{a b:Nat}(ha:a<2 ^ 64)(hb:b<2 ^ 64):orV .u64 a b=((a ||| b:Nat):Int):=by
 rw[orV,BitVec.toNat_or,zv6 a ha,zv6 b hb]
 have:=Nat.or_lt_two_pow ha hb
 exact y3a (by omega) (by omega)
theorem y3y{i:Nat}(hi:i<64):zva .u64 1 (i:Nat)=((2 ^ i:Nat):Int):=by
 have hm:min (i:Int).toNat IntKind.u64.bits=i:=by rw[zx6];simp;omega
 have hp:2 ^ i<2 ^ 64:=Nat.pow_lt_pow_right (by decide) hi
 rw[zva,hm,Int.one_mul]
 have:((2:Int) ^ i)=((2 ^ i:Nat):Int):=by simp
 rw[this]
 generalize 2 ^ i=p at hp
 exact y3a (by omega) (by omega)
theorem zyi{S i:Nat}(hS:S<2 ^ 64)(hi:i≤64):zqe .u64 (zua .u64 S (i:Nat)) 1=if S.testBit i=true then 1 else 0:=by
 have h1:zua .u64 S (i:Nat)=((S / 2 ^ i:Nat):Int):=by
  rw[zqq (by omega) (by rw[zx6];simp;exact hi),zA9]
  simp
 have h2:S / 2 ^ i<2 ^ 64:=Nat.lt_of_le_of_lt (Nat.div_le_self _ _) hS
 rw[h1,show(1:Int)=((1:Nat):Int)from rfl,zzm h2 (by decide),Nat.and_one_is_mod,Nat.testBit_eq_decide_div_mod_eq]
 rcases Nat.mod_two_eq_zero_or_one (S / 2 ^ i)with h|h <;> simp[h]
end Go.Ab
namespace Go.Ab
variable{P:Program}{f:FuncId}{R:z4b}{k:List Item}{all:Array Oper}{o:Oper}{l:List Oper}
variable{n:Nat}{tm:List (Nat × PV)}{hp:Hp}{up:Hf}{d:Nat}{ty:TypeId}{pos:String}{aft:Array Edge}{gd:Option (Nat × Bool)}{op:Op}{p:PV}
theorem Quiet.upd{H:Hf}{y:Nat}{A:Blk}{ms:Nat}(h:Quiet H ms)(hA:A.says (0,ms)=false):Quiet (Ab.upd H (0,y) A) ms:=by
 intro s b hb
 simp only[Ab.upd,true_and]at hb
 by_cases h0:s=y
 ·rw[zAz h0]at hb;simp at hb;subst hb;exact hA
 ·rw[zAy h0]at hb;exact h s b hb
end Go.Ab
namespace Go.Ab
variable{P:Program}{f:FuncId}{R:z4b}{k:List Item}{all:Array Oper}{l:List Oper}
variable{n:Nat}{tm:List (Nat × PV)}{hp:Hp}{up:Hf}{d:Nat}{ty:TypeId}{pos:String}{aft:Array Edge}{gd:Option (Nat × Bool)}{p:PV}
theorem zgm{g:FuncId}{args:List Operand}{ps:List PV}{ats:Array TypeId}{m1 m2:Nat}{b1 b2 b':Blk}(hsp:z1v P g ps [((0,m1),b1),((0,m2),b2)] [((0,m2),b')] p)(hev:St.evs ⟨n,tm,hp,up⟩ args=some ps)
 (h1:look hp m1=some b1) (h2:look hp m2=some b2) (hd:d<n) (h:Ops P f R all l k ⟨n,(d,p)::tm,(m2,b')::hp,up⟩) :
 Op1 P f R all ⟨some d,.call ⟨.value (.func g),args.toArray,ats⟩,ty,pos,aft,gd⟩ l k ⟨n,tm,hp,up⟩ :=
 zj7 hsp hev (by simp[BkE,z5e,push,h1,h2]) hd rfl h
theorem y1y{P:Program}{f:FuncId}{R:z4b}{k:List Item}{n:Nat}{tm:List (Nat × PV)}{hp:Hp}{up:Hf}{m:Nm}{b:Blk}(hb:up m.1 m.2=some b)(h:Run P f R k ⟨n,tm,hp,upd up m b⟩):Run P f R k ⟨n,tm,hp,up⟩:=by
 rwa [z8o hb]at h
end Go.Ab
namespace Go.Ab
variable{P:Program}{f:FuncId}{R:z4b}{k:List Item}{all:Array Oper}{l:List Oper}
variable{n:Nat}{tm:List (Nat × PV)}{hp:Hp}{up:Hf}{d:Nat}{ty:TypeId}{pos:String}{aft:Array Edge}{gd:Option (Nat × Bool)}{p:PV}
end Go.Ab
namespace Go.Ab
variable{P:Program}{f:FuncId}{R:z4b}{k:List Item}{all:Array Oper}{o:Oper}{l:List Oper}
variable{n:Nat}{tm:List (Nat × PV)}{hp:Hp}{up:Hf}{d:Nat}{ty:TypeId}{pos:String}{aft:Array Edge}{gd:Option (Nat × Bool)}{op:Op}{p:PV}
def btI(s:ByteArray):List Int:=s.data.toList.map fun b=>(b.toNat:Int)
abbrev by8(x:Int):List D:=[.lit (.int .u8 x)]
theorem zhf(s:ByteArray):(btI s).length=s.size:=by rw[btI,zA4,zAe];rfl
theorem zir(s:ByteArray):Lib.strCells s=(btI s).map fun x=>Value.int .u8 x:=by rw[Lib.strCells,btI,List.map_map];rfl
theorem zv7(w:World)(own:Nat→Prop)(s:ByteArray):z9n w own 1 ((btI s).map by8) (Lib.strCells s):=by
 refine⟨fun x hx=>?_,?_,fun v hv=>?_,fun i x hi j y hj=>?_⟩
 ·simp only[List.mem_map]at hx;obtain⟨a,_,rfl⟩:=hx;rfl
 ·rw[Lib.strCells_length,zA4,zhf,Nat.mul_one]
 ·simp only[Lib.strCells,List.mem_map]at hv;obtain⟨b,_,rfl⟩:=hv;rfl
 ·rw[zAd]at hi
  cases hb:(btI s)[i]? with
  | none=>rw[hb]at hi;cases hi
  | some b =>
   rw[hb]at hi;simp at hi;subst hi
   cases j with
   | zero =>
    simp at hj;subst hj
    refine⟨.int .u8 b,?_,.lit _ rfl⟩
    rw[zir,Nat.mul_one,Nat.add_zero,zAd,hb];rfl
   | succ j=>simp at hj
theorem zf1(w:World)(t u ty e:TypeId)(i:TypeInfo)(ht:P.underlying t=some (.slice e))(hu:P.underlying u=some .string)(hi:P.info? e=some i)(hz:i.zero=some (.int .u8 0))(hsize:i.size=1)(hby:i.bytes=1)
 (v:Value) (n:Nat) (xs:List Value) (hown:w.ownsRow 0 e 1 v n xs) (s:ByteArray) (hbytes:n+s.size≤137438953472) :
 ∃v' w',(Builtin.append_ #[t,u] ty #[v,.string s]).run P w=.ok v' w'∧w'.ownsRow 0 e 1 v' (n+s.size) (xs++Lib.strCells s)∧w.grownBy w' v.ownBlock∧(v'.ownBlock=v.ownBlock∨v'.ownBlock=some w.heap.size):=by
 obtain⟨v',w',hrun,h2,h3,_⟩:=Lib.run_append_own_string (P:=P) w 0 t u ty e i ht hu hi hz hsize hby v n xs hown s (by unfold maxLen;omega) (by omega) (zAf _)
 refine⟨v',w',hrun,h2,h3,?_⟩
 rcases hown.2 with⟨rfl,rfl⟩|⟨g,cap,cur,rfl,hbg,hg,hnc,hcm,hcs,htake⟩
 ·by_cases hs:s.size=0
  ·have hx:=h2.2
   rw[hs,Nat.add_zero]at hx
   have hr:=Lib.run_append_own_string (P:=P) w 0 t u ty e i ht hu hi hz hsize hby (.slice none 0 0) 0 xs hown s (by unfold maxLen;omega) (by omega) (zAf _)
   obtain⟨v2,w2,r2,_,_,q2⟩:=hr
   rw[r2]at hrun
   simp only[Result.ok.injEq]at hrun
   left;rw[←hrun.1,q2.2 ⟨rfl,hs⟩]
  ·have hr:=run_append_nil_string (P:=P) w t u ty e i (.int .u8 0) ht hu hi hz s (by omega) (by omega) (by rw[hby];omega)
   exact zD68
 ·by_cases hroom:n+s.size≤cap
  ·have hr:=Lib.run_append_room_string (P:=P) w t u ty e i ht hu hi hsize g n cap cur hg s hroom (by omega)
   rw[hr]at hrun
   simp only[Result.ok.injEq]at hrun
   left;rw[←hrun.1];rfl
  ·have holds:∀j u,xs[j]? =some u→w.cell? ((⟨g,0,none⟩:Addr).add j)=some u:=hown.cells (g:=g) rfl
   have hxl:xs.length=n:=by simpa using hown.1
   have hr:=Lib.run_append_grow_string (P:=P) w t u ty e i (.int .u8 0) ht hu hi hz ⟨g,0,none⟩ n cap xs (by rw[hsize];simpa using hxl) holds s (by omega) (by omega) (by rw[hby];exact growslice_fits (by omega) (by omega))
   exact zD68
theorem zdu{s:St}{t tu e:TypeId}{ti tui te:TI}(ht:z1d P t ti)(hu:z1d P tu tui)(he:z1d P e te){x y:Operand}{m:Nm}{e':TypeId}{kk:Nat}{xs:List (List D)}{sb:ByteArray}(hx:s.ev x=some (.ref m))(hy:s.ev y=some (S sb))(hb:z5e s m=some (.row e' kk xs))
 (hm:m.1=0) (hk:ti.kind=.slice e) (hku:tui.kind=.str) (hee:e'=e) (hkk:kk=1) (hs1:te.size=1) (hb1:te.bytes=1) (hz:(P.info? e).bind (·.zero)=some (Value.int .u8 0)) (hsm:xs.length+sb.size≤137438953472)
 (hf:(z1k d s.hp&&z1q d s.tm)=true) (hd:d<s.n) :
 z1z P ⟨some d,.call ⟨.builtin .append,#[x,y],#[t,tu]⟩,ty,pos,aft,gd⟩ s (s.app ⟨[],[],[],[(d,.ref (0,d))],[(m,.gone),((0,d),.row e kk (xs++(btI sb).map by8))]⟩):=by
 obtain⟨n,tm,hp,up⟩:=s
 obtain⟨md,ms⟩:=m
 simp only at hm hf hd
 subst hm hee hkk
 intro β own a w hr
 have hlook:z19 (push hp up) (0,ms)=some (.row e' 1 xs):=hb
 obtain⟨vs,ho,hk0,hown,hrr⟩:=hr.row hlook
 have hyv:=(hr.ev hy).lit
 have hxv:=hr.ev hx
 generalize hv:a.eval x=v at hxv
 cases hxv with
 | ref _ =>
  obtain⟨i,uu,z,hi,huu,hzi,hs,hb',hkk,hzz,_⟩:=he.get
  have hz0:i.zero=some (.int .u8 0):=by
   rw[hi]at hz;exact hz
  obtain⟨v',w',hrun,hown',hgrow,hwhere⟩:=zf1 (P:=P) w t tu ty e' i (ht.slice hk) (hu.str hku) hi hz0 (hs.trans hs1) (hb'.trans hb1) (β (0,ms)) xs.length vs hown sb hsm
  have hus:=zv7 w own sb
  have hblk:=z4l hown'
  have hblk0:=z4l hown
  have hE:Ext w own w' (fun g=>own g∨v'.ownBlock=some g):=by
   exact zD50
  have hr0:Rep ⟨n,tm,(ms,.gone)::hp,up⟩ β own a w:=⟨hr.size,hr.defers,hr.tm,by
   have:=hr.heap.drop (0,ms)
   rwa [←z4p ⟨n,tm,hp,up⟩ (0,ms) .gone]at this⟩
  have hrow:z9n w' (fun g=>own g∨v'.ownBlock=some g) 1 (xs++(btI sb).map by8) (vs++Lib.strCells sb):=(z9n.app hrr hus).mono hE
  have hin:=hr0.install (d:=d) (b:=.row e' 1 (xs++(btI sb).map by8)) (v:=v') (own':=fun g=>own g∨v'.ownBlock=some g) (by simpa[z1k,Blk.says]using hf) hE
   (fun g hg=>by
     rcases hg with hg|hg
     ·exact zAx (hr.heap.lt g hg) hgrow.size
     ·exact(hown'.lt g hg).2)
   (fun q c hq hl hqd g hg=>by
     rw[z2t]at hq
     by_cases hqm:q=(0,ms)
     ·rw[zAz hqm]at hq;simp at hq;subst hq;cases hl
     ·rw[zAy hqm]at hq
      have hog:=(hr.heap.blk q c hq).block_lt hl hg
      have hne:(β (0,ms)).ownBlock≠some g:=fun e=>hr.heap.inj q (0,ms) c _ hq hlook hl rfl hqm g hg (by rw[hblk0];exact e)
      refine⟨hgrow.block g (hr.heap.lt g hog) fun e=>hne e.symm,.inl hog,fun _ e=>?_⟩
      rw[hblk]at e
      rcases hwhere with h|h
      ·rw[h]at e;exact hne e
      ·rw[h]at e;simp at e;have:=hr.heap.lt g hog;omega)
   (.row v' e' 1 _ _ (fun g hg=>.inr hg) hk0 (by rw[zAa,zA4,zhf];exact hown') hrow)
  refine⟨_,v',w',z69 β d v',_,?_,.inl rfl,?_,hE,z3a _ _ _⟩
  ·simp[execOp,resolve,invoke,builtin,hv,hyv,hrun]
  ·exact zD43
theorem zmr{t tu e:TypeId}{ti tui te:TI}[ht:z1d P t ti][hu:z1d P tu tui][he:z1d P e te]{x y:Operand}{ms:Nat}{sb:ByteArray}{q:List Int}(hev:St.evs ⟨n,tm,hp,up⟩ [x,y]=some [.ref (0,ms),S sb])(hb:look hp ms=some (.row e 1 (q.map by8)))
 (hk:ti.kind=.slice e) (hku:tui.kind=.str) (hs1:te.size=1) (hb1:te.bytes=1) (hz:(P.info? e).bind (·.zero)=some (Value.int .u8 0)) (hfr:(z1k d hp&&z1q d tm)=true) (hd:d<n) (hq:q.length+sb.size≤137438953472)
 (h:Ops P f R all l k ⟨n,(d,.ref (0,d))::tm,(d,.row e 1 ((q++btI sb).map by8))::(ms,.gone)::hp,up⟩) :
 Op1 P f R all ⟨some d,.call ⟨.builtin .append,#[x,y],#[t,tu]⟩,ty,pos,aft,gd⟩ l k ⟨n,tm,hp,up⟩:=by
 obtain⟨hx,hy,_⟩:=evE (xs:=[(x,.ref (0,ms)),(y,S sb)]) hev
 refine z0b (zdu (P:=P) (s:=⟨n,tm,hp,up⟩) (m:=(0,ms)) ht hu he hx hy hb rfl hk hku rfl rfl hs1 hb1 hz (by simpa using hq) hfr hd) ?_
 rw[List.map_append]at h;exact h
end Go.Ab
namespace Go.Ab
variable{P:Program}{f:FuncId}{R:z4b}{k:List Item}{all:Array Oper}{o:Oper}{l:List Oper}
variable{n:Nat}{tm:List (Nat × PV)}{hp:Hp}{up:Hf}{d:Nat}{ty:TypeId}{pos:String}{aft:Array Edge}{gd:Option (Nat × Bool)}{op:Op}{p:PV}
def zal(P:Program)(g:FuncId)(args:List PV)(bs hs:List (Nm × Blk))(p:PV)(a b:Nat):Prop :=
 ∀H:Hf,(∀q∈bs,H q.1.1 q.1.2=some q.2)→H 0 a=some .gone→H 0 b=some .gone→Quiet H a→Quiet H b→z9r P g args H ⟨fun r H'=>r=.v p∧H'=zf9 H hs,fun n=>n=(0,a)∨n=(0,b),none⟩
theorem zai{g:FuncId}{args:List PV}{bs hs:List (Nm × Blk)}{p:PV}{a b:Nat}(h:∀H:Hf,(∀q∈bs,H q.1.1 q.1.2=some q.2)→H 0 a=some .gone→H 0 b=some .gone→Quiet H a→Quiet H b→z9r P g args H ⟨fun r H'=>r=.v p∧H'=zf9 H hs,fun n=>n=(0,a)∨n=(0,b),none⟩):zal P g args bs hs p a b:=h
def y11(m1 m2:Nat)(hs:List (Nm × Blk)):Bool:=(hs.any fun q=>q.1 == (0,m1))&&(hs.any fun q=>q.1 == (0,m2))
theorem zh3{m:Nm}{z:Blk}:∀ {hs:List (Nm × Blk)} {H:Hf},(hs.any fun q=>q.1 == m)=true→zf9 (upd H m z) hs=zf9 H hs
 | [],H,h=>by simp at h
 | (x,b)::r,H,h=>by
  rw[zf9,zf9]
  by_cases e:x=m
  ·subst e;rw[z3g]
  ·rw[List.any_cons,zAu]at h
   rcases h with h|h
   ·simp at h;exact absurd h e
   ·rw[zd2 (Ne.symm e),zh3 h]
theorem ztr{m:Nat}:∀ {hp:Hp} {t:Nat} {b:Blk},z1k m hp=true→look hp t=some b→b.says (0,m)=false:=by
 intro hp
 induction hp with
 | nil=>intro t b _ h;simp[look]at h
 | cons q r ih =>
  obtain⟨kk,c⟩:=q
  intro t b hf h
  simp only[z1k,zA7,zA6]at hf
  simp only[look]at h
  split at h
  ·simp at h;subst h;simp_all
  ·exact ih (by simp_all) h
theorem zdy{m:Nat}:∀ {tm:List (Nat × PV)} {t:Nat} {q:PV},z1q m tm=true→look tm t=some q→q.says (0,m)=false:=by
 intro tm
 induction tm with
 | nil=>intro t b _ h;simp[look]at h
 | cons q r ih =>
  obtain⟨kk,c⟩:=q
  intro t b hf h
  simp only[z1q,zA7,zA6]at hf
  simp only[look]at h
  split at h
  ·simp at h;subst h;simp_all
  ·exact ih (by simp_all) h
theorem PR.re2{β β':Nm→Value}{w:World}{own:Nat→Prop}{m1 m2:Nat}(hβ:∀x,¬(x=(0,m1)∨x=(0,m2))→β' x=β x){q:PV}{v:Value}(h:PR β w own q v)(h1:q.says (0,m1)=false)(h2:q.says (0,m2)=false):PR β' w own q v:=by
 let γ:Nm→Value:=fun m=>if m=(0,m1)then β m else β' m
 have g1:∀q,q≠(0,m2)→γ q=β q:=fun q hq=>by
  by_cases e:q=(0,m1)
  ·simp[γ,e]
  ·simp only[γ,e,if_false]
   exact hβ q fun h=>h.elim e hq
 have g2:∀q,q≠(0,m1)→β' q=γ q:=fun q hq=>by simp[γ,hq]
 exact(h.reβ (0,m2) g1 h2).reβ (0,m1) g2 h1
theorem ze3{i:Nat}{s:St}{g:FuncId}{args:List Operand}{ps:List PV}{ats:Array TypeId}{bs hs:List (Nm × Blk)}{m1 m2:Nat}(ho:all[i]? =some ⟨some d,.call ⟨.value (.func g),args.toArray,ats⟩,ty,pos,aft,gd⟩)
 (hw:∀β own a w,Rep s β own a w→Region.wanted ⟨some d,.call ⟨.value (.func g),args.toArray,ats⟩,ty,pos,aft,gd⟩ (yielded all a.tmps)=true)
 (hev:s.evs args=some ps) (hsp:zal P g ps bs hs p m1 m2) (hb:∀q∈bs,push s.hp s.up q.1.1 q.1.2=some q.2) (hbn:(bs.all fun q=>q.1 != (0,m1)&&q.1 != (0,m2))=true) (hm:m1≠m2)
 (hf1:(z1k m1 s.hp&&z1q m1 s.tm)=true) (hf2:(z1k m2 s.hp&&z1q m2 s.tm)=true) (hcov:y11 m1 m2 hs=true) (hd:d<s.n) :
 zpo P f R all k i s (s.app ⟨[],[],[],[(d,p)],hs⟩):=by
 intro is h β own a w hrep b hb' hk hn cs
 simp only[zA7]at hf1 hf2
 simp only[y11,zA7]at hcov
 rw[List.all_eq_true]at hbn
 have hr1:HR (upd (upd (push s.hp s.up) (0,m1) .gone) (0,m2) .gone) β own w:=(hrep.heap.drop (0,m1)).drop (0,m2)
 have hq:∀x,z1k x s.hp=true→Quiet (upd (upd (push s.hp s.up) (0,m1) .gone) (0,m2) .gone) x:=fun x hx=>Quiet.upd (Quiet.upd (fun t c hc=>ztr hx hc) rfl) rfl
 have hsp':=hsp (upd (upd (push s.hp s.up) (0,m1) .gone) (0,m2) .gone) (fun q hqb=>by
  have:=hbn q hqb
  simp only[zA7,bne_iff_ne,ne_eq]at this
  exact z14 (z14 (hb q hqb) fun e=>this.1 (Prod.ext e.1 e.2)) fun e=>this.2 (Prod.ext e.1 e.2)) (z14 (z4s _ (0,m1) _) (by simp[hm])) (z4s _ (0,m2) _) (hq m1 hf1.1) (hq m2 hf2.1)
 obtain⟨vals,hrun,hargs⟩:=z7g (first:=[]) (cap:=[]) (fo:=.func g) hrep rfl hev hsp'.plain (dst:=some d) (ats:=ats) (ty:=ty) (pos:=pos) (aft:=aft) (gd:=gd)
 obtain⟨e,w',fr,⟨v,r,H,own',β',rfl,⟨rfl,rfl⟩,hrv,hheap,hext,hβ⟩,hsteps,_,hleave⟩:=hsp'.run β own w vals hr1 (by simpa using hargs) (am b a (.inRegion all (i::is)::k)::cs)
 cases hrv with
 | v _ _ hpv =>
  have hr':Rep (s.setBs hs) β' own' a w':=by
   refine⟨?_,hrep.defers,fun t q hq=>?_,?_⟩
   ·rw[(z3t hs s).2.1];exact hrep.size
   ·rw[(z3t hs s).1]at hq
    exact((hrep.tm t q hq).mono hext).re2 hβ (zdy hf1.2 hq) (zdy hf2.2 hq)
   ·rw[z9e]
    rw[zh3 hcov.2,zh3 hcov.1]at hheap
    exact hheap
  have hr2:=hr'.put (dst:=some d) (p:=p) (v:=v) (by simp[St.fits,(z3t hs s).2.1,hd]) hpv
  have hout:z71 β'=z71 β:=funext fun m=>hβ _ (by simp)
  have hn':zbf R (z71 β') b:=by rw[hout];exact hn
  have:=h β' own' _ w' hr2 b hb' hk hn' cs
  rw[hout]at this
  exact(this.ext hext).of_steps (zgz ho (hw β own a w hrep) hrun hsteps hleave)
theorem y2t{id:Nat}{ops:List Oper}{s0:St}{done:List Eff}{g:FuncId}{args:List Operand}{ps:List PV}{ats:Array TypeId}{bs hs:List (Nm × Blk)}{m1 m2:Nat}{gr:List (Nat × PV)}{s':St}(hsp:zal P g ps bs hs p m1 m2)(hg:GOK ops.toArray gd gr ⟨n,tm,hp,up⟩)(hev:St.evs ⟨n,tm,hp,up⟩ args=some ps)
 (hb:BkE ⟨n,tm,hp,up⟩ bs) (hbn:(bs.all fun q=>q.1 != (0,m1)&&q.1 != (0,m2))=true) (hm:m1≠m2) (hf1:(z1k m1 hp&&z1q m1 tm)=true) (hf2:(z1k m2 hp&&z1q m2 tm)=true) (hcov:y11 m1 m2 hs=true) (hd:d<n) (hs':St.app ⟨n,tm,hp,up⟩ ⟨[],[],[],[(d,p)],hs⟩=s')
 (h:Tr P f R id ops k s0 (done++[⟨gr++rd (args.zip ps),bs,[m1,m2],[(d,p)],hs⟩]) s' l):Tr P f R id ops k s0 done ⟨n,tm,hp,up⟩ (⟨some d,.call ⟨.value (.func g),args.toArray,ats⟩,ty,pos,aft,gd⟩::l):=by
 replace hb:=bkE hb
 obtain⟨hz1,hz2⟩:=z7d hev
 refine zdi (e:=⟨gr++rd (args.zip ps),bs,[m1,m2],[(d,p)],hs⟩) (fun i hi s1 hn hs1=>?_) ⟨fun q hq=>?_,z7m hb,fun x hx=>by
  simp only[zAc,List.not_mem_nil,or_false]at hx
  rcases hx with rfl|rfl
  ·exact hf1
  ·exact hf2⟩ hs' h
 ·have hev1:s1.evs args=some ps:=hz2 s1 (z5n hz1 fun q hq=>hs1.ins q (by simp[hq]))
  exact ze3 hi (fun β own a w hr=>hg.wanted (fun q hq=>hs1.ins q (by simp[hq])) rfl hr) hev1 hsp (fun q hq=>hs1.pre q hq) hbn hm (hs1.free m1 (by simp)) (hs1.free m2 (by simp)) hcov (by rw[hn];exact hd)
 ·exact zD101
theorem y2f{g:FuncId}{args:List Operand}{ps:List PV}{ats:Array TypeId}{bs hs:List (Nm × Blk)}{m1 m2:Nat}{s':St}(hsp:zal P g ps bs hs p m1 m2)(hev:St.evs ⟨n,tm,hp,up⟩ args=some ps)
 (hb:BkE ⟨n,tm,hp,up⟩ bs) (hbn:(bs.all fun q=>q.1 != (0,m1)&&q.1 != (0,m2))=true) (hm:m1≠m2) (hf1:(z1k m1 hp&&z1q m1 tm)=true) (hf2:(z1k m2 hp&&z1q m2 tm)=true) (hcov:y11 m1 m2 hs=true) (hd:d<n) (hs':St.app ⟨n,tm,hp,up⟩ ⟨[],[],[],[(d,p)],hs⟩=s') (h:Ops P f R all l k s') :
 Op1 P f R all ⟨some d,.call ⟨.value (.func g),args.toArray,ats⟩,ty,pos,aft,none⟩ l k ⟨n,tm,hp,up⟩:=by
 intro i rest ho hrest
 have:=ze3 (s:=⟨n,tm,hp,up⟩) (f:=f) (R:=R) (k:=k) (gd:=none) (pos:=pos) (aft:=aft) (ty:=ty) (ats:=ats) ho (fun _ _ _ _ _=>rfl) hev hsp (fun q hq=>z7m (bkE hb) q hq) hbn hm hf1 hf2 hcov hd rest
 intro β own a w hrep hw
 rw[hs']at this
 exact this (h rest hrest) β own a w hrep
section
variable{g:FuncId}{args:List Operand}{ps:List PV}{ats:Array TypeId}{bs:List (Nm × Blk)}{m1 m2 a0 a1 a2 a3 a4 a5:Nat}{x0 x1 x2 x3 x4 x5:Blk}
theorem z9v{e1 e2:TypeId}{k1 k2:Nat}{r1 r2:List (List D)}(hsp:zal P g ps bs [((0,a0),x0),((0,a1),x1),((0,a2),x2),((0,m1),.row e1 k1 r1),((0,m2),.row e2 k2 r2),((0,a0),x5)] p m1 m2)(hev:St.evs ⟨n,tm,hp,up⟩ args=some ps)
 (hb:BkE ⟨n,tm,hp,up⟩ bs) (hbn:(bs.all fun q=>q.1 != (0,m1)&&q.1 != (0,m2))=true) (hm:m1≠m2) (hf1:(z1k m1 hp&&z1q m1 tm)=true) (hf2:(z1k m2 hp&&z1q m2 tm)=true) (hcov:y11 m1 m2 [((0,a0),x0),((0,a1),x1),((0,a2),x2),((0,m1),.row e1 k1 r1),((0,m2),.row e2 k2 r2),((0,a0),x5)]=true) (hd:d<n)
 (hl1:look ((a0,x5)::(m2,.row e2 k2 r2)::(m1,.row e1 k1 r1)::(a2,x2)::(a1,x1)::(a0,x0)::hp) m1=some (.row e1 k1 r1)) (hc1:(!(m1 == a1)&&!(Blk.row e1 k1 r1).says (0,a1))=true)
 (hl2:look ((a1,.row e1 k1 r1)::(m1,.gone)::zdk m1 a1 ((a0,x5)::(m2,.row e2 k2 r2)::(m1,.row e1 k1 r1)::(a2,x2)::(a1,x1)::(a0,x0)::hp)) m2=some (.row e2 k2 r2)) (hc2:(!(m2 == a2)&&!(Blk.row e2 k2 r2).says (0,a2))=true)
 (h:Ops P f R all l k ⟨n,zc6 m2 a2 (zc6 m1 a1 ((d,p)::tm)),(a2,.row e2 k2 r2)::(m2,.gone)::zdk m2 a2 ((a1,.row e1 k1 r1)::(m1,.gone)::zdk m1 a1 ((a0,x5)::(m2,.row e2 k2 r2)::(m1,.row e1 k1 r1)::(a2,x2)::(a1,x1)::(a0,x0)::hp)),up⟩) :
 Op1 P f R all ⟨some d,.call ⟨.value (.func g),args.toArray,ats⟩,ty,pos,aft,none⟩ l k ⟨n,tm,hp,up⟩:=by
 refine y2f hsp hev hb hbn hm hf1 hf2 hcov hd rfl ?_
 refine zjc m1 a1 (q:=.row e1 k1 r1) hl1 hc1 ?_
 exact zjc m2 a2 (q:=.row e2 k2 r2) hl2 hc2 h
theorem y0o{id:Nat}{ops:List Oper}{s0:St}{done:List Eff}{gr:List (Nat × PV)}(hsp:zal P g ps bs [((0,a0),x0),((0,a1),x1),((0,a2),x2),((0,a3),x3),((0,a4),x4),((0,a5),x5)] p m1 m2)(hg:GOK ops.toArray gd gr ⟨n,tm,hp,up⟩)(hev:St.evs ⟨n,tm,hp,up⟩ args=some ps)
 (hb:BkE ⟨n,tm,hp,up⟩ bs) (hbn:(bs.all fun q=>q.1 != (0,m1)&&q.1 != (0,m2))=true) (hm:m1≠m2) (hf1:(z1k m1 hp&&z1q m1 tm)=true) (hf2:(z1k m2 hp&&z1q m2 tm)=true) (hcov:y11 m1 m2 [((0,a0),x0),((0,a1),x1),((0,a2),x2),((0,a3),x3),((0,a4),x4),((0,a5),x5)]=true) (hd:d<n)
 (h:Tr P f R id ops k s0 (done++[⟨gr++rd (args.zip ps),bs,[m1,m2],[(d,p)],[((0,a0),x0),((0,a1),x1),((0,a2),x2),((0,a3),x3),((0,a4),x4),((0,a5),x5)]⟩]) ⟨n,(d,p)::tm,(a5,x5)::(a4,x4)::(a3,x3)::(a2,x2)::(a1,x1)::(a0,x0)::hp,up⟩ l):Tr P f R id ops k s0 done ⟨n,tm,hp,up⟩ (⟨some d,.call ⟨.value (.func g),args.toArray,ats⟩,ty,pos,aft,gd⟩::l) :=
 y2t hsp hg hev hb hbn hm hf1 hf2 hcov hd rfl h
theorem zk1{id:Nat}{ops:List Oper}{s0:St}{done:List Eff}{gr:List (Nat × PV)}{b1 b2 b':Blk}(hsp:z1v P g ps [((0,m1),b1),((0,m2),b2)] [((0,m2),b')] p)(hg:GOK ops.toArray gd gr ⟨n,tm,hp,up⟩)(hev:St.evs ⟨n,tm,hp,up⟩ args=some ps)
 (h1:look hp m1=some b1) (h2:look hp m2=some b2) (hd:d<n) (h:Tr P f R id ops k s0 (done++[⟨gr++rd (args.zip ps),[((0,m1),b1),((0,m2),b2)],[],[(d,p)],[((0,m2),b')]⟩]) ⟨n,(d,p)::tm,(m2,b')::hp,up⟩ l) :
 Tr P f R id ops k s0 done ⟨n,tm,hp,up⟩ (⟨some d,.call ⟨.value (.func g),args.toArray,ats⟩,ty,pos,aft,gd⟩::l) :=
 zcj hsp hg hev (by simp[BkE,z5e,push,h1,h2]) hd rfl h
end
end Go.Ab
namespace Go.Ab
theorem z0q.at{P:Program}{g:FuncId}{args:List PV}{p:PV}(h:z0q P g args p)(H:Hf):Spec P g args H (fun r H'=>r=.v p∧H'=H):=h H
end Go.Ab
namespace Go.Ab
variable{P:Program}{f:FuncId}{R:z4b}{k:List Item}{n:Nat}{tm tm0:List (Nat × PV)}{hp hp0:Hp}{up up0:Hf}
structure Stop(p:Prop):Prop where
 go:p
theorem zg1{A B:Code}{st:St}(h:Stop (Run P f R (.code (.seq A B)::k) st)):Run P f R (.code (.seq A B)::k) st:=h.go
theorem ze1{p:Prop}(h:p):Stop p:=⟨h⟩
theorem y5z{A B:Code}{st st0:St}(h1:Run P f R (.code B::k) st0)(h2:Run P f R (.code B::k) st0→Run P f R (.code A::.code B::k) st):Run P f R (.code (.seq A B)::k) st:=z08 (h2 h1)
theorem zmn(D:Nat)(b0:Bool){X:Bool}(hl:look tm D=some (B X))(hX:X=b0)(h:Run P f R k ⟨n,(D,B b0)::tm,hp,up⟩):Run P f R k ⟨n,tm,hp,up⟩:=by
 subst hX
 refine Run.le (s:=⟨n,(D,B X)::tm,hp,up⟩) (fun β own ac w hr=>⟨β,rfl,hr.size,hr.defers,fun t p hp'=>?_,hr.heap⟩) h
 simp only[look]at hp'
 split at hp'
 ·rename_i e;subst e;simp at hp';subst hp';exact hr.tm _ _ hl
 ·exact hr.tm t p hp'
end Go.Ab
namespace Go.Ab
variable{P:Program}{f:FuncId}{R:z4b}{k:List Item}{all:Array Oper}{l:List Oper}
variable{n:Nat}{tm:List (Nat × PV)}{hp:Hp}{up:Hf}{d:Nat}{ty:TypeId}{pos:String}{aft:Array Edge}{gd:Option (Nat × Bool)}{p:PV}
variable{t e e':TypeId}{ti te:TI}{x y:Operand}{kk':IntKind}{a:Int}{ms:Nat}{cs:List PV}
theorem Rep.rowp{s:St}{β:Nm→Value}{own:Nat→Prop}{ac:Act}{w:World}(h:Rep s β own ac w)(hb:look s.hp ms=some (.rowp e cs)) :
 ∃vs,(∀g,(β (0,ms)).ownBlock=some g→own g)∧w.ownsRow 0 e 1 (β (0,ms)) cs.length vs∧(∀u∈vs,u.oneCell'=true)∧∀(j:Nat) (x:PV) (u:Value),cs[j]? =some x→vs[j]? =some u→PR β w own x u:=by
 have:=h.heap.blk (0,ms) (.rowp e cs) hb
 generalize hv:β (0,ms)=v at this
 cases this with
 | rowp v e cs vs ho hr h1 hd=>exact⟨vs,ho,hr,h1,hd⟩
theorem zbd{w:World}{v:Value}{vs:List Value}{len i:Nat}(ho:w.ownsRow 0 e 1 v len vs)(hi:i<len) :
 ∃g cap cur,v=.slice (some ⟨g,0,none⟩) len cap∧w.heap[g]? =some (.cells cur e (0,0))∧cur.toList.take (len*1)=vs∧(∀j u,vs[j]? =some u→w.cell? ⟨g,j,none⟩=some u)∧cap≤maxLen∧len≤cap∧cur.size=cap*1:=by
 rcases ho.2 with⟨_,h0⟩|⟨g,cap,cur,hv,_,hg,hle,hmx,hsz,htake⟩
 ·omega
 ·refine⟨g,cap,cur,hv,hg,htake,fun j u hj=>?_,hmx,hle,hsz⟩
  exact zD92
theorem z5i [ht:z1d P t ti][he:z1d P e te](hk:ti.kind=.slice e)(h0:0≤a)(h1:a<cs.length)(hkk:te.size=1):Val P (.indexAddr t x y) ty [(x,.ref (0,ms)),(y,I kk' a)] [((0,ms),.rowp e' cs)] (.rptr (0,ms) 1 a.toNat 0):=fun d pos aft gd n tm hp up hd hx hb =>
 z1c rfl hd fun β own ac w hr=>by
  obtain⟨vs,ho,hown,h1',hdd⟩:=hr.rowp hb.1
  obtain⟨g,cap,cur,hv,hg,htake,hcell,_⟩:=zbd (i:=a.toNat) hown (by omega)
  have hxv:=hr.ev hx.1
  generalize hv':ac.eval x=v at hxv
  cases hxv with
  | ref _ =>
   refine⟨.pointer (some ⟨g,a.toNat*1+0,none⟩),?_,.rptr (0,ms) 1 a.toNat 0 g _ cap hv⟩
   exact zD64
theorem z6j{i:Nat}[ht:z1d P t ti](hz:cs[i]? =some p)(hs:ti.size=1)(ha:ti.agg=false):Val P (.load t x) ty [(x,.rptr (0,ms) 1 i 0)] [((0,ms),.rowp e' cs)] p:=fun d pos aft gd n tm hp up hd hx hb =>
 z1c rfl hd fun β own ac w hr=>by
  obtain⟨vs,ho,hown,h1',hdd⟩:=hr.rowp hb.1
  have hi:=(zA1.1 hz).1
  obtain⟨g,cap,cur,hv,hg,htake,hcell,_⟩:=zbd (i:=i) hown hi
  have hxv:=hr.ev hx.1
  generalize hv':ac.eval x=v at hxv
  cases hxv with
  | rptr _ _ _ _ g' len' cap' h' =>
   rw[hv]at h';simp at h'
   obtain⟨rfl,_,_⟩:=h'
   have hvl:vs.length=cs.length*1:=hown.1
   obtain⟨c,hc⟩:∃c,vs[i]? =some c:=⟨_,zA0 (by omega)⟩
   have h1c:=h1' c (zA2 hc)
   have hpr:=hdd i p c hz hc
   exact zD38
theorem ziu{s:St}{i:Nat}(ht:z1d P t ti)(hx:s.ev x=some (.rptr (0,ms) 1 i 0))(hy:s.ev y=some p)(hb:look s.hp ms=some (.rowp e' cs))(hp:cellsOf p=some [p])(hok:z8i s p=true)(hz:i<cs.length)(hs:ti.size=1) :
 z1z P ⟨none,.store t x y,ty,pos,aft,gd⟩ s (s.setB (0,ms) (.rowp e' (cs.set i p))):=by
 obtain⟨n,tm,hpp,up⟩:=s
 intro β own a w hr
 have hlook:z19 (push hpp up) (0,ms)=some (.rowp e' cs):=hb
 obtain⟨vs,ho,hown,h1',hdd⟩:=hr.rowp hb
 obtain⟨g,cap,cur,hv,hg,htake,hcell,hmx,hle,hcsz⟩:=zbd (i:=i) hown hz
 have hxv:=hr.ev hx
 generalize hv':a.eval x=v at hxv
 cases hxv with
 | rptr _ _ _ _ g' len' cap' h' =>
  rw[hv]at h';simp at h'
  obtain⟨rfl,_,_⟩:=h'
  obtain⟨c1,c2,c3⟩:=z8p (hr.ev hy) (hr.oneRef hok) hp
  obtain⟨u,hu⟩:∃u,(a.eval y).cells=#[u]:=by
   obtain⟨l,hl⟩:∃l,(a.eval y).cells=⟨l⟩:=⟨_,rfl⟩
   have:l.length=1:=by rw[hl]at c1;simpa using c1.symm
   obtain⟨u,rfl⟩:=List.length_eq_one_iff.1 this
   exact⟨u,hl⟩
  have hu1:u.oneCell'=true:=c2 u (by rw[hu];simp)
  have hpu:PR β w own p u:=c3 0 p u rfl (by rw[hu];rfl)
  have hvl:vs.length=cs.length*1:=hown.1
  have hg2:w.heap[g]? =some (.cells cur.toList.toArray e' (0,0)):=by simpa using hg
  have hrun:=z6s (P:=P) ht (w:=w) (off:=i*1+0) hg2 (v:=a.eval y) (by rw[hu,hs];rfl) c2 (by rw[hu];simp;omega)
  have hog:own g:=ho g (by rw[hv];rfl)
  have he:Ext w own (w.setRow g (z1b cur.toList (i*1+0) (a.eval y).cells.toList).toArray) own :=
   ⟨rfl,rfl,rfl,by simp,fun b hb ho=>setRow_other w g b _ fun e=>ho (e▸hog),fun b hb ho=>ho⟩
  have hsz:(z1b cur.toList (i*1+0) (a.eval y).cells.toList).length=cur.size:=by rw[z1l];simp
  have hbr:BR β (w.setRow g (z1b cur.toList (i*1+0) (a.eval y).cells.toList).toArray) own (β (0,ms)) (.rowp e' (cs.set i p)):=by
   refine .rowp _ e' _ (z1b vs (i*1+0) (a.eval y).cells.toList) ho ⟨by rw[z1l,List.length_set];exact hvl,.inr ⟨g,cap,_,by rw[List.length_set,hv],zAf _,setRow_heap w g cur _ e' _ hg,by rw[List.length_set];exact hle,hmx,by simp[z1l,hcsz],?_⟩⟩ (fun z hz'=>?_) fun j q z hq hz'=>?_
   ·rw[List.length_set]
    simp only[List.toList_toArray]
    rw[zad _ _ _ _ (by rw[hu];simp;omega) (by simp;omega),htake]
   ·obtain⟨j,hj⟩:=zAw hz'
    rw[z34 _ _ _ (by rw[hu];simp;omega)]at hj
    split at hj
    ·exact c2 z (zA2 hj)
    ·exact h1' z (zA2 hj)
   ·rw[z34 _ _ _ (by rw[hu];simp;omega)]at hz'
    by_cases hji:j=i
    ·subst hji
     rw[zAp hz]at hq
     simp at hq;subst hq
     rw[zAz (by rw[hu];simp),hu]at hz'
     simp at hz';subst hz'
     exact hpu.mono he
    ·rw[List.getElem?_set_ne (Ne.symm hji)]at hq
     rw[zAy (by rw[hu];simp;omega)]at hz'
     exact(hdd j q z hq hz').mono he
  have hheap:=hr.heap.change (raw:=.rowp e' (cs.set i p)) hlook rfl he (by simp) (fun g' hg'=>setRow_other w g g' _ fun e=>hg' (by rw[hv,e];rfl)) (by rw[show atF (0,ms) (.rowp e' (cs.set i p))=.rowp e' (cs.set i p)from rfl];exact hbr)
  simp only[Nat.mul_one,Nat.add_zero]at hrun hv' hheap he hbr
  refine⟨.skip,undef,_,β,own,by simp only[execOp,hv'];simp[hrun],.inr ⟨rfl,rfl⟩,?_,he,rfl⟩
  have e2:push ((ms,.rowp e' (cs.set i p))::hpp) up=upd (push hpp up) (0,ms) (.rowp e' (cs.set i p)):=by rw[←z4p ⟨n,tm,hpp,up⟩ (0,ms)];rfl
  exact⟨hr.size,hr.defers,fun t q hq=>(hr.tm t q hq).mono he,by show HR (push ((ms,_)::hpp) up) β own _;rw[e2];exact hheap⟩
theorem zsb{i:Nat}[ht:z1d P t ti](hx:St.ev ⟨n,tm,hp,up⟩ x=some (.rptr (0,ms) 1 i 0))(hy:St.ev ⟨n,tm,hp,up⟩ y=some p)(hb:look hp ms=some (.rowp e' cs))(hp':cellsOf p=some [p])(hok:z8i ⟨n,tm,hp,up⟩ p=true)(hz:i<cs.length)(hs:ti.size=1)
 (h:Ops P f R all l k ⟨n,tm,(ms,.rowp e' (cs.set i p))::hp,up⟩):Op1 P f R all ⟨none,.store t x y,ty,pos,aft,gd⟩ l k ⟨n,tm,hp,up⟩ :=
 z0b (ziu (s:=⟨n,tm,hp,up⟩) ht hx hy hb hp' hok hz hs) h
theorem zcn{hp':Hp}{tm':List (Nat × PV)}(ht:∀t p,look tm' t=some p→look tm t=some p)(hh:∀s b,look hp' s=some b→look hp s=some b)(h:Run P f R k ⟨n,tm',hp',up⟩):Run P f R k ⟨n,tm,hp,up⟩:=by
 refine Run.le (s:=⟨n,tm',hp',up⟩) (fun β own a w hr=>⟨β,rfl,hr.size,hr.defers,fun t p hp=>hr.tm t p (ht t p hp),?_⟩) h
 have key:∀m b,z19 (push hp' up) m=some b→z19 (push hp up) m=some b:=by
  rintro⟨k,s⟩ b hq
  cases k with
  | zero=>exact hh s b hq
  | succ k=>exact hq
 exact zD61
theorem y1i(ms:Nat){xs:List D}(hb:look hp ms=some (.row e 1 (xs.map fun x=>[x])))(h:Run P f R k ⟨n,tm,(ms,.rowp e (xs.map .d))::hp,up⟩):Run P f R k ⟨n,tm,hp,up⟩:=by
 refine Run.le (s:=⟨n,tm,(ms,.rowp e (xs.map .d))::hp,up⟩) (fun β own a w hr=>⟨β,rfl,hr.size,hr.defers,hr.tm,?_⟩) h
 have h0:z19 (push hp up) (0,ms)=some (.row e 1 (xs.map fun x=>[x])):=hb
 have key:∀m b,z19 (push ((ms,.rowp e (xs.map .d))::hp) up) m=some b→(m=(0,ms)∧b=.rowp e (xs.map .d))∨z19 (push hp up) m=some b:=by
  rintro⟨k,s⟩ b hq
  cases k with
  | zero =>
   replace hq:look ((ms,.rowp e (xs.map .d))::hp) s=some b:=hq
   simp only[look]at hq
   split at hq
   ·rename_i hh;subst hh;exact .inl ⟨rfl,by simpa using hq.symm⟩
   ·exact .inr hq
  | succ k=>exact .inr hq
 have liv:∀m b,z19 (push ((ms,.rowp e (xs.map .d))::hp) up) m=some b→b.live=true→∃b',z19 (push hp up) m=some b'∧b'.live=true:=fun m b hm hl=>by
  rcases key m b hm with⟨rfl,rfl⟩|h1
  ·exact⟨_,h0,rfl⟩
  ·exact⟨b,h1,hl⟩
 refine⟨fun m b hm=>?_,fun m1 m2 b1 b2 h1 h2 l1 l2 hne=>?_,hr.heap.lt⟩
 ·rcases key m b hm with⟨rfl,rfl⟩|h1
  ·have hbr:=hr.heap.blk (0,ms) _ h0
   generalize β (0,ms)=v at hbr
   cases hbr with
   | row v e kk xs' vs ho hk hown hd =>
    rw[zA4]at hown
    refine .rowp v e _ vs ho (by rw[zA4];exact hown) hd.2.2.1 fun j q u hq hu=>?_
    rw[zAd]at hq
    cases hj:xs[j]? with
    | none=>rw[hj]at hq;cases hq
    | some z =>
     rw[hj]at hq
     simp at hq;subst hq
     obtain⟨u',h1',h2'⟩:=hd.2.2.2 j [z] (by rw[zAd,hj];rfl) 0 z rfl
     rw[Nat.mul_one,Nat.add_zero,hu]at h1'
     cases h1'
     exact .d _ _ h2'
  ·exact hr.heap.blk m b h1
 ·obtain⟨c1,q1,k1⟩:=liv m1 b1 h1 l1
  obtain⟨c2,q2,k2⟩:=liv m2 b2 h2 l2
  exact hr.heap.inj m1 m2 c1 c2 q1 q2 k1 k2 hne
theorem znn{s:St}{t e:TypeId}{ti te:TI}(ht:z1d P t ti)(he:z1d P e te)(hk:ti.kind=.slice e){x y:Operand}{k1:IntKind}{a:Int}(hx:s.ev x=some (I k1 a))(hy:s.ev y=some (I k1 a))(h0:0≤a)(ha:a≤137438953472)(hb:te.bytes≤1024)(hz:te.zero.all (·.oneCell')=true)
 (hz1:te.zero.length=te.size) (hz2:te.size≠0) (hf:(z1k d s.hp&&z1q d s.tm)=true) (hd:d<s.n) :
 z1z P ⟨some d,.makeSlice t x y,ty,pos,aft,gd⟩ s (s.app ⟨[],[],[],[(d,.ref (0,d))],[((0,d),.row e te.size (List.replicate a.toNat (te.zero.map D.lit)))]⟩):=by
 obtain⟨n,tm,hp,up⟩:=s
 intro β own ac w hr
 obtain⟨i,u,z,hi,hu,hiz,his,hib,hku,hzc,_⟩:=he.get
 have hsm:=z5m (b:=te.bytes) (c:=a.toNat) hb (by omega)
 have hby:(i.bytes:Int)*a≤281474976710656:=by
  exact zD99
 have hrun:=run_make (P:=P) w t e i z (ht.slice hk) hi hiz k1 k1 a a h0 (Int.le_refl _) hby (by omega)
 have hE:=Ext.alloc w own (.cells (madeCells z.cells (a.toNat*i.size)) e)
 have hzsz:z.cells.size=te.size:=by rw[←hz1,←hzc];simp
 have hget:∀i' j,i'<a.toNat→j<te.size→(madeCells z.cells (a.toNat*i.size)).toList[i'*te.size+j]? =te.zero[j]?:=by
  exact zD82
 have hlen:(madeCells z.cells (a.toNat*i.size)).toList.length=a.toNat*te.size:=by simp[size_madeCells,his]
 have hrow:z9n (w.alloc (.cells (madeCells z.cells (a.toNat*i.size)) e)) (fun g=>own g∨g=w.heap.size) te.size (List.replicate a.toNat (te.zero.map D.lit)) (madeCells z.cells (a.toNat*i.size)).toList:=by
  refine⟨fun x hx=>?_,by rw[zAr];exact hlen,fun v hv=>?_,fun i' x hx' j y hy'=>?_⟩
  ·rw[List.mem_replicate]at hx;rw[hx.2];simp[hz1]
  ·exact zD42
  ·have hi'':=(zA1.1 hx').1
   rw[zAr]at hi''
   rw[List.getElem?_replicate,zAz hi'']at hx'
   simp at hx';subst hx'
   rw[zAd]at hy'
   cases hq:te.zero[j]? with
   | none=>rw[hq]at hy';cases hy'
   | some u =>
    rw[hq]at hy';simp at hy';subst hy'
    refine⟨u,by rw[hget i' j hi'' (by have:=(zA1.1 hq).1;omega)];exact hq,?_⟩
    rw[List.all_eq_true]at hz
    exact .lit _ (hz u (zA2 hq))
 have hin:=hr.install (d:=d) hf hE (fun g hg=>by rcases hg with hg|rfl;exact zAx (hr.heap.lt g hg) (by simp);simp) (v:=.slice (some ⟨w.heap.size,0,none⟩) a.toNat a.toNat) (b:=.row e te.size (List.replicate a.toNat (te.zero.map D.lit)))
  (z6m hr.heap _ _ _ rfl)
  (.row _ e te.size _ _ (fun g hg=>by simp[Value.ownBlock]at hg;exact .inr hg.symm) (by omega)
    ⟨by rw[zAr];exact hlen,.inr ⟨w.heap.size,a.toNat,_,by rw[zAr],zAf _,z5l w _,by rw[zAr];exact zAj _,by unfold maxLen;omega,hlen,by rw[zAr,←hlen];exact List.take_length⟩⟩ hrow)
 exact zD24
section
variable{k1:IntKind}{xs:List (List D)}
theorem y09 [ht:z1d P t ti][he:z1d P e te](hk:ti.kind=.slice e)(hev:St.evs ⟨n,tm,hp,up⟩ [x,y]=some [I k1 a,I k1 a])(h0:0≤a)(ha:a≤137438953472)(hb:decide (te.bytes≤1024)=true)(hz:z8l te 0=true)(hfr:(z1k d hp&&z1q d tm)=true)(hd:d<n)
 (hxs:List.replicate a.toNat (te.zero.map D.lit)=xs) (h:Ops P f R all l k ⟨n,(d,.ref (0,d))::tm,(d,.row e te.size xs)::hp,up⟩):Op1 P f R all ⟨some d,.makeSlice t x y,ty,pos,aft,gd⟩ l k ⟨n,tm,hp,up⟩:=by
 obtain⟨h1,h2,_⟩:=evE (xs:=[(x,I k1 a),(y,I k1 a)]) hev
 simp only[z8l,zA7,beq_iff_eq,bne_iff_ne]at hz
 subst hxs
 exact z0b (znn (P:=P) (d:=d) ht he hk (s:=⟨n,tm,hp,up⟩) h1 h2 h0 ha (by simpa using hb) hz.1.1.1 hz.1.1.2 hz.1.2 hfr hd) h
end
end Go.Ab
namespace Go.Ab
variable{P:Program}{f:FuncId}{R:z4b}{k:List Item}{all:Array Oper}{o:Oper}{l:List Oper}
variable{n:Nat}{tm:List (Nat × PV)}{hp:Hp}{up:Hf}{d:Nat}{ty:TypeId}{pos:String}{aft:Array Edge}{gd:Option (Nat × Bool)}{op:Op}{p:PV}
theorem PV.saysL_at{m:Nm}:∀ {ps:List PV} {j:Nat} {p:PV},ps[j]? =some p→p.says m=true→PV.saysL m ps=true
 | [],j,p,h,_=>by simp at h
 | q::ps,0,p,h,hp=>by simp at h;subst h;simp[PV.saysL,hp]
 | q::ps,j+1,p,h,hp=>by simp only[PV.saysL,zAu];exact .inr (PV.saysL_at (by simpa using h) hp)
theorem zdz{m:Nm}:∀ {st:List (Nat × PV)} {t:Nat} {p:PV},(t,p)∈st→p.says m=true→z42 m st=true
 | [],t,p,h,_=>by simp at h
 | (u,q)::r,t,p,h,hp=>by
  simp only[z42,zAu]
  rw[zAc]at h
  rcases h with e|h
  ·simp at e;exact .inl (e.2▸hp)
  ·exact .inr (zdz h hp)
theorem PR.reG{β β':Nm→Value}{w:World}{o:Nat→Prop}{x:PV}{v:Value}(hx:PR β w o x v):(∀m,x.says m=true→β' m=β m)→PR β' w o x v:=by
 induction hx with
 | any v=>exact fun _=>.any v
 | d x v hx=>exact fun _=>.d x v hx
 | ptr m off g h=>exact fun hs=>.ptr m off g (by rw[hs m (by simp[PV.says])];exact h)
 | eptr cs g o c hown hlt hcell hd=>exact fun _=>.eptr cs g o c hown hlt hcell hd
 | ref m=>exact fun hs=>by rw[←hs m (by simp[PV.says])];exact .ref m
 | rptr m k i off g len cap h=>exact fun hs=>.rptr m k i off g len cap (by rw[hs m (by simp[PV.says])];exact h)
 | rsub m k lo len L cap a h hl hc=>exact fun hs=>.rsub m k lo len L cap a (by rw[hs m (by simp[PV.says])];exact h) hl hc
 | al a b h v=>exact fun hs=>.al a b (by rw[hs a (by simp[PV.says]),hs b (by simp[PV.says])];exact h) v
 | agg cs vs hl h1 hd ih=>exact fun hs=>.agg cs vs hl h1 fun j x v hx hv=>ih j x v hx hv fun m hm=>hs m (by simp only[PV.says];exact PV.saysL_at hx hm)
 | tup ps vs hl hd ih=>exact fun hs=>.tup ps vs hl fun j x v hx hv=>ih j x v hx hv fun m hm=>hs m (by simp only[PV.says];exact PV.saysL_at hx hm)
 | fn f first cap fv cv hl hl' hd hd' ih ih' =>
  exact fun hs=>.fn f first cap fv cv hl hl' (fun j x v hx hv=>ih j x v hx hv fun m hm=>hs m (by simp only[PV.says,PV.saysL_at hx hm,Bool.true_or])) fun j x v hx hv=>ih' j x v hx hv fun m hm=>hs m (by simp only[PV.says,PV.saysL_at hx hm,Bool.or_true])
 | yl m L h=>exact fun hs=>.yl m L (by rw[hs m (by simp[PV.says])];exact h)
 | full xs a h=>exact fun _=>.full xs a h
theorem BR.reG{β β':Nm→Value}{w:World}{o:Nat→Prop}{v:Value}{b:Blk}(hx:BR β w o v b)(hs:∀m,b.says m=true→β' m=β m):BR β' w o v b:=by
 cases hx with
 | box g t cs cur ho hg hl h1 hd=>exact .box g t cs cur ho hg hl h1 fun j x v hx hv=>(hd j x v hx hv).reG fun m hm=>hs m (by simp only[Blk.says];exact PV.saysL_at hx hm)
 | row v e k xs vs ho hk hr hd=>exact .row v e k xs vs ho hk hr hd
 | rowp v e cs vs ho hr h1 hd=>exact .rowp v e cs vs ho hr h1 fun j x u hx hu=>(hd j x u hx hu).reG fun m hm=>hs m (by simp only[Blk.says];exact PV.saysL_at hx hm)
 | siter g s pos ho hg=>exact .siter g s pos ho hg
 | gmap g cur clock ho hg=>exact .gmap g cur clock ho hg
 | mit h g since seen last ho hg=>exact .mit h g since seen last ho hg
 | glob g o ho hg hd=>exact .glob g o ho hg hd
 | mp g clock es cur ho hg hl hd hb hc=>exact .mp g clock es cur ho hg hl hd hb hc
 | lp g n' f ps asg body st state pending tmps df ho hg hl hd=>exact .lp g n' f ps asg body st state pending tmps df ho hg hl fun t p hp=>(hd t p hp).reG fun m hm=>hs m (by simp only[Blk.says];exact zdz hp hm)
 | gone v=>exact .gone v
theorem zlb:∀ {st:List (Nat × PV)} {t:Nat} {p:PV},look st t=some p→(t,p)∈st
 | [],t,p,h=>by simp[look]at h
 | (u,q)::r,t,p,h=>by
  simp only[look]at h
  split at h
  ·rename_i e;simp at h;subst e h;simp
  ·exact List.mem_cons_of_mem _ (zlb h)
def zcx(H:Hf)(F:Hp):Hf:=fun d s=>match d with|0=>(look F s).or (H 0 s)|d+1=>H (d+1) s
theorem z4c:∀(A B:Hp) (s:Nat),look (A++B) s=(look A s).or (look B s)
 | [],B,s=>rfl
 | (kk,c)::r,B,s=>by simp only[List.cons_append,look];split <;> simp[z4c r B s]
theorem zhw(F:Hp):zcx (push hp up) F=push (F++hp) up:=by
 funext d s
 cases d with
 | zero=>simp only[zcx,push,z4c]
 | succ d=>rfl
def Gv(σ:Nat→Option Nat)(b q:Blk):Prop:=∀(β β':Nm→Value) (w:World) (own:Nat→Prop) (v:Value),(∀s y,σ s=some y→β' (1,s)=β (0,y))→BR β w own v b→BR β' w own v (q.lift 1)
theorem Gv.row{σ:Nat→Option Nat}{e kk:Nat}{xs:List (List D)}:Gv σ (.row e kk xs) (.row e kk xs):=by
 intro β β' w own v hb h
 cases h with|row _ _ _ _ vs ho hk hr hd=>exact .row _ _ _ _ vs ho hk hr hd
theorem Gv.rowp{σ:Nat→Option Nat}{e:Nat}{cs qs:List PV}(hl:qs.length=cs.length)(h:∀(j:Nat) (q:PV),qs[j]? =some q→(∃x,q=.d x∧cs[j]? =some (.d x))∨∃s y,q=.ref (0,s)∧σ s=some y∧cs[j]? =some (.ref (0,y))):Gv σ (.rowp e cs) (.rowp e qs):=by
 intro β β' w own v hb hx
 cases hx with
 | rowp v e cs vs ho hr h1 hd =>
  refine .rowp v e _ vs ho (by rw[PV.liftL_length,hl];exact hr) h1 fun j x u hx hu=>?_
  rw[PV.liftL_get]at hx
  cases hq:qs[j]? with
  | none=>rw[hq]at hx;cases hx
  | some q =>
   rw[hq]at hx;simp at hx;subst hx
   rcases h j q hq with⟨z,rfl,hc⟩|⟨s,y,rfl,hs,hc⟩
   ·have:=hd j _ u hc hu
    cases this with|d _ _ h=>exact .d _ _ h
   ·have:=hd j _ u hc hu
    generalize hg:β (0,y)=uu at this
    cases this
    rw[←hb s y hs]
    exact .ref (1,s)
theorem zz4(F:Hp)(σ:Nat→Option Nat){tm':List (Nat × PV)}(hF:∀s q,look F s=some q→∃y b,σ s=some y∧look hp y=some b∧(q.live=true→b.live=true)∧Gv σ b q)(hσ:∀s y,σ s=some y→∃q,look F s=some q)
 (hinj:∀s s' y,σ s=some y→σ s'=some y→s=s') (hvol:∀s q,look F s=some q→R.vol (0,s)) (hq:∀s q t b,look F s=some q→up 0 t=some b→b.says (0,s)=false)
 (ht:∀t p,look tm' t=some p→∃s y,p=.ref (1,s)∧σ s=some y∧look tm t=some (.ref (0,y))) (h:Run P f R k ⟨n,tm',[],zcx up F⟩):Run P f R k ⟨n,tm,hp,up⟩:=by
 refine Run.stepV (s:=⟨n,tm,hp,up⟩) (s':=⟨n,tm',[],zcx up F⟩) (fun β own a w hr b' fs=>?_) h
 let β':Nm→Value:=fun m=>if m.1=1 then(match σ m.2 with|some y=>β (0,y)|none=>β m)else β m
 have h1:∀s y,σ s=some y→β' (1,s)=β (0,y):=fun s y e=>by simp[β',e]
 have h2:∀s,σ s=none→β' (1,s)=β (1,s):=fun s e=>by simp[β',e]
 have h3:∀m:Nm,m.1≠1→β' m=β m:=fun m e=>by simp[β',e]
 have hno:∀s,look F s=none→σ s=none:=fun s e=>by
  cases hs:σ s with
  | none=>rfl
  | some y=>obtain⟨q,hq⟩:=hσ s y hs;rw[e]at hq;cases hq
 -- each name of the new state and the old name of the same block
 have key:∀m c,z19 (push [] (zcx up F)) m=some c→∃m0 c0,z19 (push hp up) m0=some c0∧(c.live=true→c0.live=true)∧β' m=β m0∧BR β' w own (β' m) c∧((∃s y,m=(1,s)∧m0=(0,y)∧σ s=some y)∨(m0=m∧m.1≠0)):=by
  rintro⟨dd,s⟩ c hc
  match dd,hc with
  | 0,hc=>simp[z19,push,look]at hc
  | 1,hc =>
   have hc':((look F s).or (up 0 s)).map (Blk.lift 1)=some c:=hc
   cases hs:look F s with
   | some q =>
    rw[hs]at hc'
    simp at hc';subst hc'
    obtain⟨y,b,e1,e2,e3,e4⟩:=hF s q hs
    refine⟨(0,y),b,e2,fun hl=>e3 (by rwa [Blk.lift_live]at hl),h1 s y e1,?_,.inl ⟨s,y,rfl,rfl,e1⟩⟩
    rw[h1 s y e1]
    exact e4 β β' w own _ h1 (hr.heap.blk (0,y) b e2)
   | none =>
    rw[hs]at hc'
    simp at hc'
    obtain⟨q,hu,rfl⟩:=hc'
    have hlk:z19 (push hp up) (1,s)=some (q.lift 1):=by simp[z19,push,hu]
    refine⟨(1,s),q.lift 1,hlk,id,h2 s (hno s hs),?_,.inr ⟨rfl,by simp⟩⟩
    rw[h2 s (hno s hs)]
    refine(hr.heap.blk _ _ hlk).reG fun m hm=>?_
    obtain⟨md,ms⟩:=m
    match md,hm with
    | 0,hm=>exact h3 _ (by simp)
    | 1,hm =>
     cases hx:look F ms with
     | none=>exact h2 ms (hno ms hx)
     | some z=>rw[Blk.lift_says1,hq ms z s q hx hu]at hm;cases hm
    | md+2,hm=>exact h3 _ (by simp)
  | dd+2,hc =>
   have hc':(up (dd+1) s).map (Blk.lift (dd+2))=some c:=hc
   cases hu:up (dd+1) s with
   | none=>rw[hu]at hc';cases hc'
   | some q =>
    rw[hu]at hc';simp at hc';subst hc'
    have hlk:z19 (push hp up) (dd+2,s)=some (q.lift (dd+2)):=by simp[z19,push,hu]
    refine⟨(dd+2,s),_,hlk,id,h3 _ (by simp),?_,.inr ⟨rfl,by simp⟩⟩
    rw[h3 _ (by simp)]
    refine(hr.heap.blk _ _ hlk).reG fun m hm=>?_
    obtain⟨md,ms⟩:=m
    by_cases hmd:md=1
    ·subst hmd
     rw[show dd+2=dd+1+1 from rfl,Blk.lift_says0 dd 1 ms q]at hm;cases hm
    ·exact h3 _ hmd
 refine⟨β',own,a,w,⟨hr.size,hr.defers,fun t p hp'=>?_,fun m c hm=>?_,fun m1 m2 c1 c2 e1 e2 l1 l2 hn g hg=>?_,hr.heap.lt⟩,Ext.refl _ _,fun m hm=>?_,.refl _ _⟩
 ·obtain⟨s,y,rfl,hs,hty⟩:=ht t p hp'
  have:=hr.tm t _ hty
  generalize a.tmps.getD t undef=v at this⊢
  cases this
  rw[←h1 s y hs]
  exact .ref (1,s)
 ·obtain⟨_,_,_,_,_,hb,_⟩:=key m c hm;exact hb
 ·obtain⟨n1,b1,k1,v1,w1,_,o1⟩:=key m1 c1 e1
  obtain⟨n2,b2,k2,v2,w2,_,o2⟩:=key m2 c2 e2
  rw[w1]at hg
  rw[w2]
  refine hr.heap.inj n1 n2 b1 b2 k1 k2 (v1 l1) (v2 l2) (fun e=>hn ?_) g hg
  rcases o1 with⟨s1,y1,rfl,rfl,q1⟩|⟨rfl,q1⟩
  ·rcases o2 with⟨s2,y2,rfl,rfl,q2⟩|⟨rfl,q2⟩
   ·simp at e;subst e;rw[hinj s1 s2 y1 q1 q2]
   ·subst e;simp at q2
  ·rcases o2 with⟨s2,y2,rfl,rfl,q2⟩|⟨rfl,q2⟩
   ·subst e;simp at q1
   ·exact e
 ·obtain⟨md,ms⟩:=m
  show β' (md+1,ms)=β (md+1,ms)
  cases md with
  | zero =>
   cases hx:look F ms with
   | none=>exact h2 ms (hno ms hx)
   | some z=>exact absurd (hvol ms z hx) hm
  | succ md=>exact h3 _ (by simp)
def zm1(P:Program)(g:FuncId)(args:List PV)(F:Hp)(p:PV):Prop :=
 ∀H:Hf,(∀s q t b,look F s=some q→H 0 t=some b→b.says (0,s)=false)→z9r P g args H ⟨fun r H'=>r=.v p∧H'=zcx H F,fun m=>m.1=0∧∃q,look F m.2=some q,none⟩
theorem zpg{g:FuncId}{fo:Operand}{args:List Operand}{first cap ps:List PV}{ats:Array TypeId}{F:Hp}(hsp:zm1 P g (first++ps++cap) F p)(hfo:St.ev ⟨n,tm,hp,up⟩ fo=some (.fn (.func g) first cap))(hev:St.evs ⟨n,tm,hp,up⟩ args=some ps)
 (hq:∀s q,look F s=some q→z3u (0,s) hp=true∧z42 (0,s) tm=false) (hd:d<n) (h:Ops P f R all l k ⟨n,(d,p)::tm,F++hp,up⟩) :
 Op1 P f R all ⟨some d,.call ⟨.value fo,args.toArray,ats⟩,ty,pos,aft,gd⟩ l k ⟨n,tm,hp,up⟩:=by
 have hsp':=hsp (push hp up) fun s q t b hs hb=>z4o (hq s q hs).1 hb
 refine zgg (g:=g) fun β own a w hr=>?_
 obtain⟨vals,hrun,hargs⟩:=z7g hr hfo hev hsp'.plain (dst:=some d) (ats:=ats) (ty:=ty) (pos:=pos) (aft:=aft) (gd:=gd)
 refine⟨vals.toArray,w,own,hrun,Ext.refl _ _,(hsp'.run β own w vals hr.heap hargs).mono fun e w' hfin=>?_⟩
 obtain⟨v,r,H,own',β',he,⟨hr1,hH⟩,hrv,hheap,hext,hβ⟩:=hfin
 subst hr1
 cases hrv with
 | v _ _ hpv =>
  refine⟨v,β',own',⟨n,(d,p)::tm,F++hp,up⟩,he,?_,hext,funext fun m=>hβ _ (by simp),h⟩
  have hr':Rep ⟨n,tm,F++hp,up⟩ β' own' a w':=by
   refine⟨hr.size,hr.defers,fun t q hq'=>((hr.tm t q hq').mono hext).reG fun m hm=>hβ m fun⟨e1,z,hz⟩=>?_,?_⟩
   ·obtain⟨md,ms⟩:=m
    simp only at e1 hz
    subst e1
    have:z42 (0,ms) tm=true:=zdz (zlb hq') hm
    rw[(hq ms z hz).2]at this;cases this
   ·rw[←zhw,←hH];exact hheap
  exact zD85
end Go.Ab
namespace Go.Ab
variable{P:Program}{f:FuncId}{R:z4b}{k:List Item}{all:Array Oper}{o:Oper}{l:List Oper}
variable{n:Nat}{tm:List (Nat × PV)}{hp:Hp}{up:Hf}{d:Nat}{ty:TypeId}{pos:String}{aft:Array Edge}{gd:Option (Nat × Bool)}{op:Op}{p:PV}
section
variable{t e e':TypeId}{ti te:TI}{x y:Operand}{kk':IntKind}{a:Int}{m:Nm}{ms md:Nat}{cs:List PV}
theorem Rep.rowpm{s:St}{β:Nm→Value}{own:Nat→Prop}{ac:Act}{w:World}(h:Rep s β own ac w)(hb:z19 (push s.hp s.up) m=some (.rowp e cs)) :
 ∃vs,(∀g,(β m).ownBlock=some g→own g)∧w.ownsRow 0 e 1 (β m) cs.length vs∧(∀u∈vs,u.oneCell'=true)∧∀(j:Nat) (x:PV) (u:Value),cs[j]? =some x→vs[j]? =some u→PR β w own x u:=by
 have:=h.heap.blk m (.rowp e cs) hb
 generalize hv:β m=v at this
 cases this with
 | rowp v e cs vs ho hr h1 hd=>exact⟨vs,ho,hr,h1,hd⟩
theorem zo3 [ht:z1d P t ti][he:z1d P e te](hk:ti.kind=.slice e)(h0:0≤a)(h1:a<cs.length)(hkk:te.size=1):Val P (.indexAddr t x y) ty [(x,.ref (md+1,ms)),(y,I kk' a)] [((md+1,ms),.rowp e' cs)] (.rptr (md+1,ms) 1 a.toNat 0):=fun d pos aft gd n tm hp up hd hx hb =>
 z1c rfl hd fun β own ac w hr=>by
  have hl:z19 (push hp up) (md+1,ms)=some (.rowp e' (PV.liftL (md+1) cs)):=z30 hb.1
  obtain⟨vs,ho,hown,h1',hdd⟩:=hr.rowpm hl
  rw[PV.liftL_length]at hown
  obtain⟨g,cap,cur,hv,hg,htake,hcell,_⟩:=zbd (i:=a.toNat) hown (by omega)
  have hxv:=hr.ev hx.1
  generalize hv':ac.eval x=v at hxv
  cases hxv with
  | ref _ =>
   refine⟨.pointer (some ⟨g,a.toNat*1+0,none⟩),?_,.rptr (md+1,ms) 1 a.toNat 0 g _ cap hv⟩
   exact zD64
theorem zrv{i:Nat}{q:PV}[ht:z1d P t ti](hz:cs[i]? =some p)(hq:p.lift (md+1)=q)(hs:ti.size=1)(ha:ti.agg=false):Val P (.load t x) ty [(x,.rptr (md+1,ms) 1 i 0)] [((md+1,ms),.rowp e' cs)] q:=fun d pos aft gd n tm hp up hd hx hb =>
 z1c rfl hd fun β own ac w hr=>by
  subst hq
  have hl:z19 (push hp up) (md+1,ms)=some (.rowp e' (PV.liftL (md+1) cs)):=z30 hb.1
  obtain⟨vs,ho,hown,h1',hdd⟩:=hr.rowpm hl
  rw[PV.liftL_length]at hown
  have hi:=(zA1.1 hz).1
  obtain⟨g,cap,cur,hv,hg,htake,hcell,_⟩:=zbd (i:=i) hown hi
  have hxv:=hr.ev hx.1
  generalize hv':ac.eval x=v at hxv
  cases hxv with
  | rptr _ _ _ _ g' len' cap' h' =>
   rw[hv]at h';simp at h'
   obtain⟨rfl,_,_⟩:=h'
   have hvl:vs.length=cs.length*1:=hown.1
   obtain⟨c,hc⟩:∃c,vs[i]? =some c:=⟨_,zA0 (by omega)⟩
   have h1c:=h1' c (zA2 hc)
   have hpr:=hdd i (p.lift (md+1)) c (by rw[PV.liftL_get,hz];rfl) hc
   exact zD38
end
def zex(e0:TypeId):Nat→List (List (List D))→Hp
 | _,[]=>[]
 | j,xs::r=>(5000+j,.row e0 1 xs)::zex e0 (j+1) r
def zaa:Nat→Nat→List PV
 | _,0=>[]
 | j,m+1=>.ref (0,5000+j)::zaa (j+1) m
def fam(e e0:TypeId)(X:List (List (List D))):Hp:=(1000,.rowp e (zaa 0 X.length))::zex e0 0 X
variable{e e0:TypeId}{X:List (List (List D))}
theorem z4m:∀(X:List (List (List D))) (j s:Nat),look (zex e0 j X) s=if 5000+j≤s then(X[s-(5000+j)]?).map (Blk.row e0 1)else none
 | [],j,s=>by simp[zex,look]
 | xs::r,j,s=>by
  rw[zex,look,z4m r (j+1) s]
  by_cases h:5000+j=s
  ·rw[zAz h,zAz (by omega),←h,Nat.sub_self];rfl
  ·rw[zAy h]
   by_cases h2:5000+j≤s
   ·rw[zAz (by omega),zAz h2,show s-(5000+j)=(s-(5000+(j+1)))+1 by omega,List.getElem?_cons_succ]
   ·rw[zAy (by omega),zAy h2]
theorem z2v:∀(j m:Nat),(zaa j m).length=m
 | _,0=>rfl
 | j,m+1=>by rw[zaa,zAk,z2v]
theorem z6k:∀(m j i:Nat),(zaa j m)[i]? =if i<m then some (.ref (0,5000+(j+i)))else none
 | 0,j,i=>by simp[zaa]
 | m+1,j,0=>by simp[zaa]
 | m+1,j,i+1=>by
  rw[zaa,List.getElem?_cons_succ,z6k m (j+1) i]
  simp only[Nat.add_lt_add_iff_right]
  rw[show j+1+i=j+(i+1) by omega]
theorem z9o(X:List (List (List D)))(s:Nat):look (fam e e0 X) s=if s=1000 then some (.rowp e (zaa 0 X.length))else if 5000≤s then(X[s-5000]?).map (Blk.row e0 1)else none:=by
 rw[fam,look,z4m]
 by_cases h:s=1000
 ·rw[zAz h.symm,zAz h]
 ·rw[zAy (Ne.symm h),zAy h]
theorem z7s(X:List (List (List D))):look (fam e e0 X) 1000=some (.rowp e (zaa 0 X.length)):=by rw[z9o,zAz rfl]
theorem z6z{X:List (List (List D))}{i:Nat}{xs:List (List D)}(h:X[i]? =some xs):look (fam e e0 X) (5000+i)=some (.row e0 1 xs):=by
 rw[z9o,zAy (by omega),zAz (by omega),show 5000+i-5000=i by omega,h];rfl
theorem zdf{X:List (List (List D))}{s:Nat}{q:Blk}(h:look (fam e e0 X) s=some q):s=1000∨(5000≤s∧s<5000+X.length):=by
 rw[z9o]at h
 split at h
 ·exact .inl (by assumption)
 ·split at h
  ·right
   cases hx:X[s-5000]? with
   | none=>rw[hx]at h;cases h
   | some xs=>have:=(zA1.1 hx).1;omega
  ·cases h
theorem zgu{X:List (List (List D))}{s:Nat}(h:s=1000∨(5000≤s∧s<5000+X.length)):∃q,look (fam e e0 X) s=some q:=by
 rcases h with rfl|h
 ·exact⟨_,z7s X⟩
 ·exact⟨_,by rw[show s=5000+(s-5000) by omega];exact z6z (zA0 (by omega:s-5000<X.length))⟩
theorem zvp{H:Hf}{i:Nat}{xs:List (List D)}(hi:i<X.length):upd (zcx H (zex e0 0 X)) (0,5000+i) (.row e0 1 xs)=zcx H (zex e0 0 (X.set i xs)):=by
 funext dd s
 cases dd with
 | succ dd=>simp[upd,zcx]
 | zero =>
  simp only[upd,zcx,z4m,true_and,Nat.add_zero]
  by_cases h:s=5000+i
  ·subst h
   rw[zAz rfl,zAz (by omega),show 5000+i-5000=i by omega,zAp hi];rfl
  ·rw[zAy h]
   exact zD93
theorem zj1{H:Hf}(h:∀s q,look (fam e e0 X) s=some q→H 0 s=some q):zcx H (zex e0 0 X)=H:=by
 funext dd s
 cases dd with
 | succ dd=>rfl
 | zero =>
  simp only[zcx]
  cases hq:look (zex e0 0 X) s with
  | none=>rfl
  | some q =>
   have:look (fam e e0 X) s=some q:=by
    rw[fam,look]
    split
    ·rename_i h1;subst h1;rw[z4m]at hq;simp at hq
    ·exact hq
   rw[h s q this];rfl
theorem zn8{fn:Func}(hf:P.funcs[f]? =some fn){t:Nat}(hres:fn.results=#[.tmp t])(ht:look tm t=some (.ref (0,1000)))(h1:look hp 1000=some (.rowp e (zaa 0 X.length)))(h2:∀j xs,X[j]? =some xs→look hp (5000+j)=some (.row e0 1 xs))
 (hq:∀s q t b,look (fam e e0 X) s=some q→up 0 t=some b→b.says (0,s)=false) (hR:R=⟨fun r H'=>r=.v (.ref (0,1000))∧H'=zcx up (fam e e0 X),fun m=>m.1=0∧∃q,look (fam e e0 X) m.2=some q,none⟩):Run P f R (.code .ret::k) ⟨n,tm,hp,up⟩:=by
 refine zz4 (fam e e0 X) (fun s=>if s=1000∨(5000≤s∧s<5000+X.length)then some s else none) (tm':=[(t,.ref (1,1000))]) (fun s q hs=>?_) (fun s y hs=>?_) (fun s s' y e1 e2=>?_) (fun s q hs=>?_) hq (fun t' p' hp'=>?_) ?_
 ·have hge:=zdf hs
  rw[z9o]at hs
  by_cases h:s=1000
  ·subst h
   simp at hs;subst hs
   refine⟨1000,_,by simp,h1,fun _=>rfl,Gv.rowp rfl fun j q hj=>.inr ?_⟩
   rw[z6k]at hj
   split at hj
   ·rename_i hj2
    simp at hj;subst hj
    exact⟨5000+j,5000+j,rfl,by rw[zAz (.inr ⟨by omega,by omega⟩)],by rw[z6k,zAz hj2];simp⟩
   ·cases hj
  ·have h5:5000≤s∧s<5000+X.length:=hge.resolve_left h
   rw[zAy h,zAz h5.1]at hs
   cases hx:X[s-5000]? with
   | none=>rw[hx]at hs;cases hs
   | some xs =>
    rw[hx]at hs;simp at hs;subst hs
    refine⟨s,.row e0 1 xs,by rw[zAz hge],?_,fun _=>rfl,Gv.row⟩
    have:=h2 (s-5000) xs hx
    rwa [show 5000+(s-5000)=s by omega]at this
 ·by_cases h:s=1000∨(5000≤s∧s<5000+X.length)
  ·exact zgu h
  ·rw[zAy h]at hs;cases hs
 ·split at e1
  ·simp at e1
   split at e2
   ·simp at e2;omega
   ·cases e2
  ·cases e1
 ·subst hR;exact⟨rfl,q,hs⟩
 ·simp only[look]at hp'
  split at hp'
  ·rename_i e1;subst e1
   simp at hp';subst hp'
   exact⟨1000,1000,rfl,by simp,ht⟩
  ·cases hp'
 ·subst hR
  exact z0e hf _ (zvw (.ref (0,1000)) hres (by simp[look,PV.lift])) ⟨rfl,rfl⟩
def zse(P:Program)(g:FuncId)(args:List PV)(F F':Hp)(p:PV):Prop :=
 ∀H:Hf,(∀s q,look F s=some q→H 0 s=some q)→Spec P g args H fun r H'=>r=.v p∧H'=zcx H F'
theorem y24{g:FuncId}{args:List Operand}{ps:List PV}{ats:Array TypeId}{F F':Hp}(hsp:zse P g ps F F' p)(hev:St.evs ⟨n,tm,hp,up⟩ args=some ps)
 (hq:∀s q,look F s=some q→look hp s=some q) (hd:d<n) (h:Ops P f R all l k ⟨n,(d,p)::tm,F'++hp,up⟩) :
 Op1 P f R all ⟨some d,.call ⟨.value (.func g),args.toArray,ats⟩,ty,pos,aft,gd⟩ l k ⟨n,tm,hp,up⟩:=by
 have hsp':=hsp (push hp up) hq
 refine zgg (g:=g) fun β own a w hr=>?_
 obtain⟨vals,hrun,hargs⟩:=z7g (fo:=.func g) (first:=[]) (cap:=[]) hr rfl hev hsp'.plain (dst:=some d) (ats:=ats) (ty:=ty) (pos:=pos) (aft:=aft) (gd:=gd)
 refine⟨vals.toArray,w,own,hrun,Ext.refl _ _,(hsp'.run β own w vals hr.heap (by simpa using hargs)).mono fun e w' hfin=>?_⟩
 obtain⟨v,r,H,own',he,⟨hr1,hH⟩,hrv,hheap,hext⟩:=hfin
 subst hr1
 cases hrv with
 | v _ _ hpv =>
  refine⟨v,β,own',⟨n,(d,p)::tm,F'++hp,up⟩,he,?_,hext,rfl,h⟩
  have hr':Rep ⟨n,tm,F'++hp,up⟩ β own' a w':=⟨hr.size,hr.defers,fun t q hq'=>(hr.tm t q hq').mono hext,by rw[←zhw,←hH];exact hheap⟩
  exact zD85
def y1j(X:List (List (List D))):D:=.slice (X.map fun xs=>[.slice xs])
theorem zlz{tm':List (Nat × PV)}{hp':Hp}(h1:look hp 1000=some (.rowp e (zaa 0 X.length)))(h2:∀j xs,X[j]? =some xs→look hp (5000+j)=some (.row e0 1 xs))
 (ht:∀t p,look tm' t=some p→look tm t=some p∨(p=.d (y1j X)∧look tm t=some (.ref (0,1000)))) (hh:∀s b,look hp' s=some b→look hp s=some b∧s≠1000∧s<5000)
 (h:Run P f R k ⟨n,tm',hp',up⟩):Run P f R k ⟨n,tm,hp,up⟩:=by
 refine Run.step (s':=⟨n,tm',hp',up⟩) (fun β own a w hr b cs=>?_) h
 have l1:z19 (push hp up) (0,1000)=some (.rowp e (zaa 0 X.length)):=h1
 have l2:∀j xs,X[j]? =some xs→z19 (push hp up) (0,5000+j)=some (.row e0 1 xs):=h2
 obtain⟨vs,ho,hown,h1c,hcs⟩:=hr.rowpm l1
 rw[z2v]at hown
 let G:Nat→Prop:=fun g=>(β (0,1000)).ownBlock=some g∨∃j,j<X.length∧(β (0,5000+j)).ownBlock=some g
 let own':Nat→Prop:=fun g=>own g∧¬G g
 have hE:Ext w own w own':=⟨rfl,rfl,rfl,zAj _,fun _ _ _=>rfl,fun b _ h h'=>h h'.1⟩
 have hin:∀j xs,X[j]? =some xs→DR w own' (.slice xs) (β (0,5000+j)):=fun j xs hx=>by
  obtain⟨vs',ho',hk0,hown',hrr⟩:=hr.row (l2 j xs hx)
  exact zr3 hown' (hrr.mono hE) fun g hg h=>h.2 (.inr ⟨j,(zA1.1 hx).1,hg⟩)
 have hvl:vs.length=X.length*1:=hown.1
 have hvs:∀j,j<X.length→vs[j]? =some (β (0,5000+j)):=fun j hj=>by
  obtain⟨c,hc⟩:∃c,vs[j]? =some c:=⟨_,zA0 (by omega)⟩
  have:=hcs j (.ref (0,5000+j)) c (by rw[z6k,zAz hj];simp) hc
  cases this
  exact hc
 have hD:DR w own' (y1j X) (β (0,1000)):=by
  refine zr3 (e:=e) (k:=1) (vs:=vs) (by rw[zA4];exact hown) ⟨fun x hx=>?_,by rw[zA4];exact hvl,h1c,fun i x hi j y hj=>?_⟩ fun g hg h=>h.2 (.inl hg)
  ·simp only[List.mem_map]at hx;obtain⟨_,_,rfl⟩:=hx;rfl
  ·rw[zAd]at hi
   cases hx:X[i]? with
   | none=>rw[hx]at hi;cases hi
   | some xs =>
    rw[hx]at hi;simp at hi;subst hi
    cases j with
    | succ j=>simp at hj
    | zero =>
     simp at hj;subst hj
     exact⟨β (0,5000+i),by rw[Nat.mul_one,Nat.add_zero];exact hvs i (zA1.1 hx).1,hin i xs hx⟩
 have hbl1:=z4l hown
 have key:∀q b,z19 (push hp' up) q=some b→z19 (push hp up) q=some b∧q≠(0,1000)∧∀j,j<X.length→q≠(0,5000+j):=by
  rintro⟨qd,qs⟩ b hb
  cases qd with
  | zero =>
   obtain⟨g1,g2,g3⟩:=hh qs b hb
   exact⟨g1,fun e=>g2 (by simpa using e),fun j hj e=>by simp at e;omega⟩
  | succ qd=>exact⟨hb,by simp,by simp⟩
 refine⟨β,own',a,w,⟨hr.size,hr.defers,fun t p hp''=>?_,fun q b hq=>?_,fun q1 q2 b1 b2 e1 e2 l1 l2 hne=>hr.heap.inj q1 q2 b1 b2 (key _ _ e1).1 (key _ _ e2).1 l1 l2 hne,fun g hg=>hr.heap.lt g hg.1⟩,hE,rfl,.refl _ _⟩
 ·rcases ht t p hp'' with h|⟨rfl,h⟩
  ·exact(hr.tm t p h).mono hE
  ·have:=hr.tm t _ h
   generalize a.tmps.getD t undef=v at this⊢
   cases this
   exact .d _ _ hD
 ·obtain⟨k1,k2,k3⟩:=key q b hq
  refine(hr.heap.blk q b k1).kept hE fun lb g hg=>⟨rfl,(hr.heap.blk q b k1).block_lt lb hg,fun hG=>?_⟩
  rcases hG with hG|⟨j,hj,hG⟩
  ·exact hr.heap.inj q (0,1000) b _ k1 l1 lb rfl k2 g hg (by rw[hbl1];exact hG)
  ·obtain⟨xs,hx⟩:∃xs,X[j]? =some xs:=⟨_,zA0 hj⟩
   obtain⟨vs',ho',hk0,hown',hrr⟩:=hr.row (l2 j xs hx)
   exact hr.heap.inj q (0,5000+j) b _ k1 (l2 j xs hx) lb rfl (k3 j hj) g hg (by rw[z4l hown'];exact hG)
theorem zq7{g:FuncId}{args:List PV}{F:Hp}{p:PV}(h:∀H:Hf,(∀s q t b,look F s=some q→H 0 t=some b→b.says (0,s)=false)→z9r P g args H ⟨fun r H'=>r=.v p∧H'=zcx H F,fun m=>m.1=0∧∃q,look F m.2=some q,none⟩):zm1 P g args F p:=h
theorem zz8{g:FuncId}{args:List PV}{F F':Hp}{p:PV}(h:∀H:Hf,(∀s q,look F s=some q→H 0 s=some q)→Spec P g args H fun r H'=>r=.v p∧H'=zcx H F'):zse P g args F F' p:=h
theorem zm7{t:TypeId}{ti:TI}{x:Operand}{m:Nm}{cs:List PV}{e':TypeId}[ht:z1d P t ti](hk:ti.kind=.slice e):Val P (.call ⟨.builtin .len,#[x],#[t]⟩) ty [(x,.ref m)] [(m,.rowp e' cs)] (I .i64 cs.length):=fun d pos aft gd n tm hp up hd hx hb =>
 z1c rfl hd fun β own a w hr=>⟨.int .i64 cs.length,by
  have h:=hr.ev hx.1
  have hlen:∃aa cap,β m=.slice aa cs.length cap:=by
   obtain⟨md,ms⟩:=m
   have hl:∃qs:List PV,qs.length=cs.length∧z19 (push hp up) (md,ms)=some (.rowp e' qs):=by
    cases md with
    | zero=>exact⟨cs,rfl,z30 hb.1⟩
    | succ md=>exact⟨PV.liftL (md+1) cs,PV.liftL_length _ _,z30 hb.1⟩
   obtain⟨qs,hq,hl⟩:=hl
   obtain⟨vs,ho,hown,_⟩:=hr.rowpm hl
   rw[hq]at hown
   exact zD107
  obtain⟨aa,cap,hlen⟩:=hlen
  generalize hv:a.eval x=v at h
  cases h with
  | ref _=>simp[execOp,resolve,invoke,builtin,Builtin.len_,run_underlying (ht.slice hk),hv,hlen,goInt],.I _ _⟩
theorem zjj{q:Nm}:∀A B:List PV,PV.saysL q (A++B)=(PV.saysL q A||PV.saysL q B)
 | [],B=>rfl
 | p::A,B=>by simp only[List.cons_append,PV.saysL,zjj A B,Bool.or_assoc]
theorem ziz{d:Nat}(h:d<5000):∀j m,PV.saysL (0,d) (zaa j m)=false
 | j,0=>rfl
 | j,m+1=>by rw[zaa,PV.saysL,ziz h (j+1) m];simp[PV.says];omega
theorem zg6{q:Nm}{z:D}:∀m,PV.saysL q (List.replicate m (PV.d z))=false
 | 0=>rfl
 | m+1=>by rw[List.replicate_succ,PV.saysL,zg6 m];rfl
theorem zjk{d:Nat}:∀(X:List (List (List D))) (j:Nat),z1k d (zex e0 j X)=true
 | [],_=>rfl
 | xs::r,j=>by rw[zex,z1k,zjk r];rfl
def zsd(e e0:TypeId)(X:List (List (List D)))(m:Nat):Hp:=(1000,.rowp e (zaa 0 X.length++List.replicate m (.d (.lit z1t))))::zex e0 0 X
theorem zdn{d m:Nat}(h:d<5000):z1k d (zsd e e0 X m)=true:=by
 rw[zsd,z1k,zjk,Blk.says,zjj,ziz h,zg6];rfl
theorem zi4:zsd e e0 X 0=fam e e0 X:=by rw[zsd,fam,List.replicate_zero,List.append_nil]
theorem zvk{d:Nat}(h:d<5000):z1k d (fam e e0 X)=true:=by rw[←zi4];exact zdn h
theorem PV.ren_id'{a b:Nat}{p:PV}(ha:p.says (0,a)=false)(hb:p.says (0,b)=false):p.ren a b=p:=by
 cases p with
 | ref q=>simp only[PV.says,beq_eq_false_iff_ne]at ha hb;simp[PV.ren,ha,hb]
 | ptr q o=>simp only[PV.says,beq_eq_false_iff_ne]at ha hb;simp[PV.ren,ha,hb]
 | _=>simp only[PV.ren];rw[zAy];rw[hb];decide
theorem zvc{xs:List (List D)}(s:Nat):look (zex e0 0 (X++[xs])) s=if s=5000+X.length then some (.row e0 1 xs)else look (zex e0 0 X) s:=by
 rw[z4m,z4m]
 by_cases h:s=5000+X.length
 ·subst h
  rw[zAz (by omega),zAz rfl,show 5000+X.length-(5000+0)=X.length by omega,List.getElem?_concat_length];rfl
 ·rw[zAy h]
  by_cases h2:5000+0≤s
  ·rw[zAz h2,zAz h2]
   by_cases h3:s-(5000+0)<X.length
   ·rw[zAb h3]
   ·rw[zAv (by simp;omega),zAv (by omega)]
  ·rw[zAy h2,zAy h2]
theorem zuv(a:Nat){m:Nat}{xs:List (List D)}(ha:a<5000)(ha2:a≠1000){tm':List (Nat × PV)}(ht:∀t p,look tm' t=some p→look tm t=some p∧p.says (0,a)=false∧p.says (0,5000+X.length)=false)
 (h0:look hp a=some (.row e0 1 xs)) (h1:look hp 1000=some (.rowp e ((zaa 0 X.length++List.replicate (m+1) (PV.d (.lit z1t))).set X.length (.ref (0,a)))))
 (h2:∀s,5000≤s→look hp s=look (zex e0 0 X) s) (h:Run P f R k ⟨n,tm',zsd e e0 (X++[xs]) m,up⟩):Run P f R k ⟨n,tm,hp,up⟩:=by
 refine z4n a (5000+X.length) (q:=.row e0 1 xs) h0 (by simp[Blk.says];omega) ?_
 refine zcn (tm':=tm') (fun t p hp'=>?_) (fun s b hb=>?_) h
 ·obtain⟨g1,g2,g3⟩:=ht t p hp'
  rw[zcb,g1,Option.map_some,PV.ren_id' g2 g3]
 ·rw[look]
  rw[zsd,look,zvc]at hb
  by_cases h5:5000+X.length=s
  ·rw[zAz h5]
   rw[zAy (by omega),zAz h5.symm]at hb;exact hb
  ·rw[zAy h5,look]
   split at hb
   ·rename_i h3
    subst h3
    rw[zAy ha2,z9j,h1]
    simp only[Option.map_some,Blk.ren]
    rw[←hb]
    congr 2
    have hrl:∀cs:List PV,∀s,(zsh a (5000+X.length) cs)[s]? =(cs[s]?).map (PV.ren a (5000+X.length)):=fun cs s=>zd9 _ _ cs s
    apply List.ext_getElem?
    intro s
    rw[hrl]
    have hl:(zaa 0 X.length++List.replicate (m+1) (PV.d (.lit z1t))).length=X.length+(m+1):=by rw[zAa,z2v,zAr]
    have hlen1:(X++[xs]).length=X.length+1:=by simp
    by_cases h6:X.length=s
    ·subst h6
     rw[zAp (by omega),zAb (by rw[z2v,hlen1];omega),z6k,zAz (by omega)]
     simp[PV.ren]
    ·rw[List.getElem?_set_ne h6]
     by_cases h7:s<X.length
     ·rw[zAb (by rw[z2v];exact h7),zAb (by rw[z2v,hlen1];omega),z6k,z6k,zAz h7,zAz (by omega)]
      simp only[Option.map_some]
      rw[PV.ren_id' (by simp[PV.says];omega) (by simp[PV.says];omega)]
     ·rw[zAg (by rw[z2v];omega),zAg (by rw[z2v,hlen1];omega),z2v,z2v,hlen1,List.getElem?_replicate,List.getElem?_replicate]
      by_cases h8:s-X.length<m+1
      ·rw[zAz h8,zAz (by omega)];rfl
      ·rw[zAy h8,zAy (by omega)];rfl
   ·rename_i h3
    rw[zAy (Ne.symm h5)]at hb
    have h9:5000≤s:=by
     rw[z4m]at hb
     split at hb
     ·omega
     ·cases hb
    rw[zAy (by omega),z9j,h2 s h9,hb]
    have:∃z,b=.row e0 1 z:=by
     rw[z4m,zAz (by omega)]at hb
     cases hx:X[s-(5000+0)]? with
     | none=>rw[hx]at hb;cases hb
     | some z=>rw[hx]at hb;simp at hb;exact⟨z,hb.symm⟩
    obtain⟨z,rfl⟩:=this
    rfl
theorem zh8{q:Nm}:∀ {tm:List (Nat × PV)} {t:Nat} {p:PV},z42 q tm=false→look tm t=some p→p.says q=false
 | [],t,p,_,h=>by simp[look]at h
 | (u,r)::tm,t,p,hs,h=>by
  simp only[z42,Bool.or_eq_false_iff]at hs
  simp only[look]at h
  split at h
  ·simp at h;subst h;exact hs.1
  ·exact zh8 hs.2 h
theorem zu2(a:Nat){m:Nat}{xs:List (List D)}(ha:(decide (a<5000)&&decide (a≠1000))=true){tm':List (Nat × PV)}(h0:look hp a=some (.row e0 1 xs))(h1:look hp 1000=some (.rowp e ((zaa 0 X.length++List.replicate (m+1) (PV.d (.lit z1t))).set X.length (.ref (0,a)))))
 (h2:∀s,5000≤s→look hp s=look (zex e0 0 X) s) (h:Run P f R k ⟨n,tm',zsd e e0 (X++[xs]) m,up⟩) (ht:zsg tm' tm) (hs1:z42 (0,a) tm'=false) (hs2:z42 (0,5000+X.length) tm'=false):Run P f R k ⟨n,tm,hp,up⟩:=by
 simp at ha
 exact zuv a ha.1 ha.2 (fun t p hp'=>⟨(zwf ht).get hp',zh8 hs1 hp',zh8 hs2 hp'⟩) h0 h1 h2 h
theorem zi1{i:Nat}{xs:List (List D)}(hi:i<X.length)(s:Nat):look (fam e e0 (X.set i xs)) s=if s=5000+i then some (.row e0 1 xs)else look (fam e e0 X) s:=by
 rw[z9o,z9o]
 by_cases h:s=5000+i
 ·subst h
  rw[zAy (by omega),zAz (by omega),zAz rfl,show 5000+i-5000=i by omega,zAp hi];rfl
 ·rw[zAy h]
  by_cases h1:s=1000
  ·rw[zAz h1,zAz h1,List.length_set]
  ·rw[zAy h1,zAy h1]
   exact zD93
theorem zjo{tm':List (Nat × PV)}(h:Run P f R k ⟨n,tm',hp,up⟩)(ht:zsg tm' tm):Run P f R k ⟨n,tm,hp,up⟩:=zcn (fun t p hp'=>(zwf ht).get hp') (fun _ _ h=>h) h
theorem zh4{i:Nat}{xs:List (List D)}{tm':List (Nat × PV)}{rest:Hp}(hi:i<X.length)(h0:look hp (5000+i)=some (.row e0 1 xs))(h1:∀s b,s≠5000+i→look (fam e e0 X++rest) s=some b→look hp s=some b)
 (h:Run P f R k ⟨n,tm',fam e e0 (X.set i xs)++rest,up⟩) (ht:zsg tm' tm):Run P f R k ⟨n,tm,hp,up⟩:=by
 refine zcn (tm':=tm') (fun t p hp'=>(zwf ht).get hp') (fun s b hb=>?_) h
 rw[z4c,zi1 hi]at hb
 by_cases h3:s=5000+i
 ·subst h3
  rw[zAz rfl]at hb
  simp at hb;subst hb;exact h0
 ·rw[zAy h3,←z4c]at hb
  exact h1 s b h3 hb
theorem y3e{tx ty':TypeId}{x y:Operand}{k:IntKind}{a b c:Int}(hr:k.wrap c=c)(he:a-b=c):Val P (.binOp .sub tx x y ty') ty [(x,I k a),(y,I k b)] [] (I k c):=by subst he;exact z2l hr
def zez(m:Nm):Bool:=match m.1 with|0=>decide (m.2<1000)|_+1=>true
mutual
def PV.low:PV→Bool
 | .ptr m _=>zez m
 | .ref m=>zez m
 | .rptr m _ _ _=>zez m
 | .rsub m _ _ _=>zez m
 | .al a b=>zez a&&zez b
 | .agg cs=>PV.lowL cs
 | .tup vs=>PV.lowL vs
 | .fn _ first cap=>PV.lowL first&&PV.lowL cap
 | .yl m=>zez m
 | _=>true
def PV.lowL:List PV→Bool
 | []=>true
 | p::ps=>p.low&&PV.lowL ps
end
theorem zac{m:Nm}{s:Nat}(hs:1000≤s)(h:zez m=true):(m == ((0,s):Nm))=false:=by
 obtain⟨d,x⟩:=m
 cases d with
 | zero=>simp only[zez,zA3]at h;simp;omega
 | succ d=>simp
mutual
theorem PV.low_says{s:Nat}(hs:1000≤s):∀p:PV,p.low=true→p.says (0,s)=false
 | .ptr m off,h=>by simp only[PV.says];exact zac hs h
 | .ref m,h=>by simp only[PV.says];exact zac hs h
 | .rptr m _ _ _,h=>by simp only[PV.says];exact zac hs h
 | .rsub m _ _ _,h=>by simp only[PV.says];exact zac hs h
 | .al a b,h=>by
  simp only[PV.low,zA7]at h
  simp only[PV.says,zac hs h.1,zac hs h.2,Bool.or_self]
 | .agg cs,h=>by simp only[PV.says];exact PV.lowL_says hs cs h
 | .tup vs,h=>by simp only[PV.says];exact PV.lowL_says hs vs h
 | .fn f a b,h=>by
  simp only[PV.low,zA7]at h
  simp only[PV.says,PV.lowL_says hs a h.1,PV.lowL_says hs b h.2,Bool.or_self]
 | .yl m,h=>by simp only[PV.says];exact zac hs h
 | .full _,_=>rfl
 | .any,_=>rfl
 | .d _,_=>rfl
 | .eptr _,_=>rfl
theorem PV.lowL_says{s:Nat}(hs:1000≤s):∀ps:List PV,PV.lowL ps=true→PV.saysL (0,s) ps=false
 | [],_=>rfl
 | p::ps,h=>by
  simp only[PV.lowL,zA7]at h
  simp only[PV.saysL,PV.low_says hs p h.1,PV.lowL_says hs ps h.2,Bool.or_self]
end
def zo8:List (Nat × PV)→Bool
 | []=>true
 | (_,p)::r=>p.low&&zo8 r
theorem zc9{s:Nat}(hs:1000≤s):∀ {tm:List (Nat × PV)},zo8 tm=true→z42 (0,s) tm=false
 | [],_=>rfl
 | (t,p)::r,h=>by
  simp only[zo8,zA7]at h
  simp only[z42,PV.low_says hs p h.1,zc9 hs h.2,Bool.or_self]
def Blk.lowB:Blk→Bool
 | .box cs=>PV.lowL cs
 | .rowp _ cs=>PV.lowL cs
 | .lp _ _ _ _ _ st _ _=>zo8 st
 | _=>true
def z9t:Hp→Bool
 | []=>true
 | (s,b)::r=>decide (s<1000)&&b.lowB&&z9t r
theorem zed{s:Nat}(hs:1000≤s):∀ {hp:Hp},z9t hp=true→z3u (0,s) hp=true
 | [],_=>rfl
 | (t,b)::r,h=>by
  simp only[z9t,zA7]at h
  simp only[z3u,zA7,zA6]
  refine⟨?_,zed hs h.2⟩
  cases b with
  | box cs=>exact PV.lowL_says hs cs h.1.2
  | rowp e cs=>exact PV.lowL_says hs cs h.1.2
  | lp _ _ _ _ _ st _ _=>exact zc9 hs h.1.2
  | _=>rfl
theorem z6p{s:Nat}(hs:1000≤s):∀ {hp:Hp},z9t hp=true→look hp s=none
 | [],_=>rfl
 | (t,b)::r,h=>by
  simp only[z9t,zA7,zA3]at h
  rw[look,zAy (by omega)];exact z6p hs h.2
theorem z9f{s:Nat}{q:Blk}(h:look (fam e e0 X) s=some q):1000≤s:=by have:=zdf h;omega
theorem zy3{g:FuncId}{fo:Operand}{args:List Operand}{first cap ps:List PV}{ats:Array TypeId}(hsp:zm1 P g (first++ps++cap) (fam e e0 X) p)(hfo:St.ev ⟨n,tm,hp,up⟩ fo=some (.fn (.func g) first cap))(hev:St.evs ⟨n,tm,hp,up⟩ args=some ps)
 (hl:(z9t hp&&zo8 tm)=true) (hd:d<n) (h:Ops P f R all l k ⟨n,(d,p)::tm,fam e e0 X++hp,up⟩) :
 Op1 P f R all ⟨some d,.call ⟨.value fo,args.toArray,ats⟩,ty,pos,aft,gd⟩ l k ⟨n,tm,hp,up⟩:=by
 simp only[zA7]at hl
 exact zpg hsp hfo hev (fun s q hs=>⟨zed (z9f hs) hl.1,zc9 (z9f hs) hl.2⟩) hd h
end Go.Ab
namespace Go.Ab
variable{P:Program}{ty:TypeId}{x:Operand}
def rnL(s:ByteArray):Nat→Nat→List Int
 | 0,_=>[]
 | b+1,i=>if i<s.size then((Utf8.decode s i).1:Int)::rnL s b (i+(Utf8.decode s i).2)else []
theorem zlh(s:ByteArray):∀(b i:Nat) (acc:Array Value),Conv.runesFrom s b i acc=acc++((rnL s b i).map fun n=>Value.int .i32 n).toArray
 | 0,i,acc=>by simp[Conv.runesFrom,rnL]
 | b+1,i,acc=>by
  rw[Conv.runesFrom,rnL]
  split
  ·generalize Utf8.decode s i=q
   obtain⟨r,w⟩:=q
   simp only
   rw[zlh s b]
   simp
  ·simp
theorem zrd(s:ByteArray):∀b i,(rnL s b i).length≤b
 | 0,i=>zAj _
 | b+1,i=>by
  rw[rnL]
  split
  ·have:=zrd s b (i+(Utf8.decode s i).2);rw[zAk];omega
  ·simp
theorem zpu{src dst e:TypeId}{ts td te:TI}{s:ByteArray}[hs:z1d P src ts][hd':z1d P dst td][he:z1d P e te](hks:ts.kind=.str)(hkd:td.kind=.slice e)(hke:te.kind=.int .i32)(hsz:s.size≤70368744177664) :
 Val P (.convert src dst x) ty [(x,S s)] [] (.d (.slice ((rnL s s.size 0).map fun n=>[.lit (.int .i32 n)]))):=fun d pos aft gd n tm hp up hd hx hb =>
 zb7 rfl hd fun β own ac w hr=>by
  have hlen:=zrd s s.size 0
  have e1:Conv.runesFrom s s.size 0 #[]=((rnL s s.size 0).map fun n=>Value.int .i32 n).toArray:=by rw[zlh];simp
  have hrun:=run_runes_of_string (P:=P) w src dst e s (hs.str hks) (hd'.slice hkd) (he.int hke) (by rw[e1];simp;omega)
  rw[e1]at hrun
  simp only[List.size_toArray,zA4]at hrun
  generalize rnL s s.size 0=l at *
  have hcap:l.length≤grownCap w l.length 0 e:=grownCap_ge _ _ _ _
  generalize grownCap w l.length 0 e=cap at *
  generalize hC:(l.map fun n=>Value.int .i32 n).toArray++Array.replicate (cap-l.length) (.int .i32 0)=C at *
  have hCl:∀i,i<l.length→C[i]? =some (.int .i32 (l.getD i 0)):=fun i hi=>by
   rw[←hC,Array.getElem?_append_left (by simpa using hi)]
   simp[List.getD,hi]
  have hB:RowKit.Below w.heap.size w (w.drew.alloc (.cells C e)):=((RowKit.Below.refl _ _).drew).alloc (zAj _) _
  refine⟨_,_,by simp only[execOp,(hr.ev hx.1).lit];rw[Sem.run_bind,hrun];rfl,hB,.d _ _ ?_⟩
  have hl:l.length=(l.map fun n=>[D.lit (Value.int .i32 n)]).length:=by simp
  conv in Value.slice _ _ _=>rw[hl]
  refine .slice _ w.heap.size 0 cap 1 (fun i _=>.int .i32 (l.getD i 0)) (by rw[←hl];exact hcap) (fun h=>by have:=hr.heap.lt _ h;omega) ?_ (fun y hy=>by simp only[List.mem_map]at hy;obtain⟨b,_,rfl⟩:=hy;rfl) (fun i hi j hj=>?_) fun i z hz j u hu=>?_
  ·simp
  ·rw[←hl]at hi
   have hj0:j=0:=by omega
   subst hj0
   refine⟨?_,rfl⟩
   rw[cell_of_row _ w.heap.size _ C e _ (z5l w.drew _)]
   rw[show 0+(i*1+0)=i by omega]
   exact hCl i hi
  ·rw[zAd]at hz
   cases hq:l[i]? with
   | none=>rw[hq]at hz;cases hz
   | some b =>
    exact zD78
end Go.Ab
namespace Go.Ab
variable{P:Program}{f:FuncId}{R:z4b}{k:List Item}{all:Array Oper}{o:Oper}{l:List Oper}
variable{n:Nat}{tm:List (Nat × PV)}{hp:Hp}{up:Hf}{d:Nat}{ty:TypeId}{pos:String}{aft:Array Edge}{gd:Option (Nat × Bool)}{op:Op}{p:PV}
variable{e e0:TypeId}{X X':List (List (List D))}{pre:Hp}
theorem zgt(hl:z9t pre=true)(s:Nat):look (fam e e0 X++pre) s=look (pre++fam e e0 X) s:=by
 rw[z4c,z4c]
 cases hx:look (fam e e0 X) s with
 | none=>simp
 | some q=>rw[z6p (z9f hx) hl];rfl
theorem zgq(hl:z9t pre=true){i:Nat}{xs:List (List D)}(h:X[i]? =some xs):look (pre++fam e e0 X) (5000+i)=some (.row e0 1 xs):=by
 rw[z4c,z6p (by omega) hl,z6z h];rfl
theorem zvl(hl:z9t pre=true):look (pre++fam e e0 X) 1000=some (.rowp e (zaa 0 X.length)):=by
 rw[z4c,z6p (by omega) hl,z7s];rfl
theorem zfo{g:FuncId}{fo:Operand}{args:List Operand}{first cap ps:List PV}{ats:Array TypeId}(hsp:zm1 P g (first++ps++cap) (fam e e0 X) p)(hfo:St.ev ⟨n,tm,hp,up⟩ fo=some (.fn (.func g) first cap))(hev:St.evs ⟨n,tm,hp,up⟩ args=some ps)
 (hl:(z9t hp&&zo8 tm)=true) (hd:d<n) (h:Ops P f R all l k ⟨n,(d,p)::tm,hp++fam e e0 X,up⟩) :
 Op1 P f R all ⟨some d,.call ⟨.value fo,args.toArray,ats⟩,ty,pos,aft,gd⟩ l k ⟨n,tm,hp,up⟩:=by
 refine zy3 hsp hfo hev hl hd ?_
 simp only[zA7]at hl
 intro is his
 exact zcn (fun _ _ h=>h) (fun s b hb=>by rw[zgt hl.1];exact hb) (h is his)
theorem zmm{g:FuncId}{args:List Operand}{ps:List PV}{ats:Array TypeId}(hsp:zse P g ps (fam e e0 X) (fam e e0 X') p)(hev:St.evs ⟨n,tm,hp,up⟩ args=some ps)
 (hh:∀s b,look (pre++fam e e0 X) s=some b→look hp s=some b) (hl:z9t pre=true) (hX:X'.length=X.length) (hd:d<n) (h:Ops P f R all l k ⟨n,(d,p)::tm,pre++fam e e0 X',up⟩) :
 Op1 P f R all ⟨some d,.call ⟨.value (.func g),args.toArray,ats⟩,ty,pos,aft,gd⟩ l k ⟨n,tm,hp,up⟩:=by
 refine y24 hsp hev (fun s q hs=>hh s q (by rw[z4c,z6p (z9f hs) hl,hs];rfl)) hd ?_
 intro is his
 refine zcn (tm':=(d,p)::tm) (fun _ _ h=>h) (fun s b hb=>?_) (h is his)
 rw[←zgt hl,z4c]at hb
 rw[z4c]
 cases hx:look (fam e e0 X') s with
 | some q=>rw[hx]at hb;exact hb
 | none =>
  rw[hx]at hb
  simp only[Option.none_or]at hb⊢
  exact hh s b (by rw[z4c,hb];rfl)
theorem zl4{i:Nat}{xs:List (List D)}{tm':List (Nat × PV)}(hl:z9t pre=true)(hi:i<X.length)(h0:look hp (5000+i)=some (.row e0 1 xs))(h1:∀s b,s≠5000+i→look (pre++fam e e0 X) s=some b→look hp s=some b)
 (h:Run P f R k ⟨n,tm',pre++fam e e0 (X.set i xs),up⟩) (ht:zsg tm' tm):Run P f R k ⟨n,tm,hp,up⟩:=by
 refine zh4 (i:=i) (X:=X) (rest:=pre) hi h0 (fun s b hs hb=>h1 s b hs (by rw[←zgt hl];exact hb)) ?_ ht
 exact zcn (fun _ _ h=>h) (fun s b hb=>by rw[zgt hl];exact hb) h
theorem zz7{tm':List (Nat × PV)}{pre':Hp}(hl:z9t pre=true)(ht:∀t p,look tm' t=some p→look tm t=some p∨(p=.d (y1j X)∧look tm t=some (.ref (0,1000))))(hp':znk pre' pre)
 (h:Run P f R k ⟨n,tm',pre',up⟩) (hl':z9t pre'=true):Run P f R k ⟨n,tm,pre++fam e e0 X,up⟩:=by
 refine zlz (X:=X) (e:=e) (e0:=e0) (zvl hl) (fun j xs h=>zgq hl h) ht (fun s b hb=>?_) h
 have hs:s<1000:=by
  apply Classical.byContradiction
  intro hs
  rw[z6p (by omega) hl']at hb;cases hb
 refine⟨?_,by omega,by omega⟩
 rw[z4c,(y0j hp').get hb];rfl
def zyd(x:D):List (Nat × PV)→List (Nat × PV)→Prop
 | [],_=>True
 | (t,p)::r,tm=>(look tm t=some p∨(p=.d x∧look tm t=some (.ref (0,1000))))∧zyd x r tm
theorem zii{x:D}{tm:List (Nat × PV)}:∀ {tm':List (Nat × PV)},zyd x tm' tm→∀t p,look tm' t=some p→look tm t=some p∨(p=.d x∧look tm t=some (.ref (0,1000)))
 | [],_,t,p,h=>by simp[look]at h
 | (u,q)::r,hf,t,p,h=>by
  simp only[look]at h
  split at h
  ·rename_i e;subst e;simp at h;subst h;exact hf.1
  ·exact zii hf.2 t p h
theorem zg0{tm':List (Nat × PV)}{pre':Hp}(ht:zyd (y1j X) tm' tm)(hp':znk pre' pre)(hl:(z9t pre&&z9t pre')=true)
 (h:Run P f R k ⟨n,tm',pre',up⟩):Run P f R k ⟨n,tm,pre++fam e e0 X,up⟩:=by
 simp only[zA7]at hl
 exact zz7 hl.1 (zii ht) hp' h hl.2
end Go.Ab
namespace Go.Ab
open Go.ChangeShapes Go.WideShapes Go.ChangeAt Go.RowKit
variable{H:Type}{enc:TypeId × Value→H}{P:Program}
def y3c(P:Program)(G:List TypeId):Bool:=G.all fun t=>match P.underlying t with
 | some (.int .u8)=>false
 | _=>true
theorem Sh.y3c{G:List TypeId}{t:TypeId}{ds:List D}(h:Sh P t ds)(hG:zka P G=true)(hN:Ab.y3c P G=true)(ht:t∈G):∀x∈ds,∀z,x≠.lit (.int .u8 z):=by
 induction h with
 | int t k z hu h1 h2 =>
  intro x hx z' e
  simp only[zAq]at hx
  subst hx
  simp only[D.lit.injEq,Value.int.injEq]at e
  have:=List.all_eq_true.1 hN t ht
  rw[hu,e.1]at this
  simp at this
 | bool t b hu=>intro x hx z' e;simp only[zAq]at hx;subst hx;simp at e
 | str t s hu hs=>intro x hx z' e;simp only[zAq]at hx;subst hx;simp at e
 | slice t e' xs hu hl hx ih=>intro x hx z' e;simp only[zAq]at hx;subst hx;simp at e
 | struct t fs parts hu hl hp ih =>
  intro x hx z' e
  rw[List.mem_flatten]at hx
  obtain⟨p,hp1,hp2⟩:=hx
  obtain⟨i,hi⟩:=zAw hp1
  have hil:i<fs.length:=by have:=(zA1.1 hi).1;omega
  have hf:fs[i]? =some fs[i]:=zA0 hil
  have hg:=List.all_eq_true.1 hG t ht
  rw[hu]at hg
  simp only[zA7]at hg
  have hm:fs[i].type∈G:=List.contains_iff_mem.1 (List.all_eq_true.1 hg.1 fs[i] (by simp))
  exact ih i fs[i] p hf hi hm x hp2 z' e
theorem y2g{W:World}{own:Nat→Prop}(hsep:∀g o v,own g→W.cell? ⟨g,o,none⟩=some v→∃z,v=.int .u8 z){base:Nat}{sp:Nat→Bool}{held:Bool}{G:List TypeId}(hG:zka P G=true)(hN:y3c P G=true):∀(fuel:Nat) (t:TypeId) (cs:List Value) (x:DataW H × List MemPlace),t∈G→DataW.trod enc P W base sp held fuel t cs=some x →
 ∃ds,Sh P t ds∧CD W own ds cs:=by
 intro fuel
 induction fuel using Nat.strongRecOn with
 | _ fuel ih =>
 intro t cs x ht h
 have hg:=List.all_eq_true.1 hG t ht
 cases hu:P.underlying t with
 | none=>rw[hu]at hg;simp at hg
 | some u =>
  rw[hu]at hg
  cases u with
  | bool =>
   obtain⟨b,rfl,_⟩:=DataW.trod_bool hu h
   exact⟨_,.bool t b hu,.one (.lit _ rfl) rfl⟩
  | int k =>
   obtain⟨z,rfl,_,hw⟩:=DataW.trod_int hu h
   simp only[Lit.wf,zA7,zA3]at hw
   exact⟨_,.int t k z hu hw.1 hw.2,.one (.lit _ rfl) rfl⟩
  | string =>
   obtain⟨s,rfl,_,hs⟩:=DataW.trod_string hu h
   exact⟨_,.str t s hu hs,.one (.lit _ rfl) rfl⟩
  | slice e =>
   simp only[zA7,zA3]at hg
   obtain⟨he,hc0⟩:=hg
   have he:e∈G:=List.contains_iff_mem.1 he
   rcases DataW.trod_slice hu h with⟨rfl,_⟩|⟨a,len,cap,elems,rest,n,hfu,rfl,_,hb,hl,hm,hlen,hel,_⟩
   ·exact⟨_,.slice t e [] hu (by simp) (by simp),.one (.nil none 0) rfl⟩
   ·by_cases h0:len=0
    ·subst h0
     exact⟨_,.slice t e [] hu (by simp) (by simp),.one (.nil _ _) rfl⟩
    have each:∀i,i<len→∃cs':List Value,W.cells? base (a.add (i*P.cellsOf e)) (P.cellsOf e)=some cs'∧∃ds,Sh P e ds∧CD W own ds cs':=fun i hi=>by
     have h1:=hel i hi
     rw[zA0 (by omega)]at h1
     obtain⟨cs',h2,h3⟩:=Option.bind_eq_some_iff.1 h1
     exact⟨cs',h2,ih n (by omega) e cs' _ he h3⟩
    obtain⟨r,hr1,hr2⟩:=za9 (p:=fun i (_:Nat) (b:List D × List Value)=>W.cells? base (a.add (i*P.cellsOf e)) (P.cellsOf e)=some b.2∧Sh P e b.1∧CD W own b.1 b.2) (List.range len) 0 fun i q hq=>by
     have:i<len:=by have:=(zA1.1 hq).1;simpa using this
     obtain⟨cs',h2,ds,h3,h4⟩:=each i this
     exact⟨(ds,cs'),by simpa using h2,h3,h4⟩
    rw[List.length_range]at hr1
    have hr:∀(i:Nat) (b:List D × List Value),r[i]? =some b→W.cells? base (a.add (i*P.cellsOf e)) (P.cellsOf e)=some b.2∧Sh P e b.1∧CD W own b.1 b.2:=fun i b hb=>by
     have hi:i<len:=by have:=(zA1.1 hb).1;omega
     have:=hr2 i i b (List.getElem?_range hi) hb
     simpa using this
    obtain⟨g,o,spn⟩:=a
    obtain⟨b0,hb0⟩:∃b0,r[0]? =some b0:=⟨_,zA0 (by omega)⟩
    have hc:=(World.cells?_some (hr 0 b0 hb0).1).2.2 0 hc0
    have hlen0:=(World.cells?_some (hr 0 b0 hb0).1).2.1
    simp only[Nat.zero_mul,Addr.add,if_true,World.cell?]at hc
    rw[zA0 (by omega)]at hc
    have hg':g<W.heap.size:=by
     cases hq:W.heap[g]? with
     | none=>rw[hq]at hc;simp at hc
     | some q=>exact(Array.getElem?_eq_some_iff.1 hq).1
    have hsp:spn=none:=by
     cases spn with
     | none=>rfl
     | some q =>
      cases hq:W.heap[g]? with
      | none=>rw[hq]at hc;simp at hc
      | some b=>rw[hq]at hc;cases b <;> simp at hc
    subst hsp
    have hxl:(r.map (·.1)).length=len:=by simp[hr1]
    refine⟨[.slice (r.map (·.1))],.slice t e _ hu (by rw[hxl];omega) fun x hx=>?_,.one ?_ rfl⟩
    ·simp only[List.mem_map]at hx
     obtain⟨b,hb,rfl⟩:=hx
     obtain⟨i,hi⟩:=zAw hb
     exact(hr i b hi).2.1
    ·have:=DR.slice (w:=W) (own:=own) (r.map (·.1)) g o cap (P.cellsOf e) (fun i j=>((r.getD i ([],[])).2).getD j undef) (by rw[hxl];exact hl) (fun hown=>by
      have q:=hr 0 b0 hb0
      have q1:=(World.cells?_some q.1).2.2 0 hc0
      have q0:=(World.cells?_some q.1).2.1
      obtain⟨v0,hv0⟩:∃v0,b0.2[0]? =some v0:=⟨_,zA0 (by omega)⟩
      have hd0:0<b0.1.length:=by rw[q.2.2.1];omega
      obtain⟨x0,hx0⟩:∃x0,b0.1[0]? =some x0:=⟨_,zA0 hd0⟩
      have hdr:=q.2.2.2.2 0 x0 v0 hx0 hv0
      rw[hv0]at q1
      simp only[Nat.zero_mul,Addr.add]at q1
      obtain⟨z,rfl⟩:=hsep g _ v0 hown q1
      exact(q.2.1.y3c hG hN he x0 (zA2 hx0) z) (by cases hdr with|lit _ _=>rfl)) hg'
      (by
        intro x hx
        simp only[List.mem_map]at hx
        obtain⟨b,hb,rfl⟩:=hx
        obtain⟨i,hi⟩:=zAw hb
        rw[(hr i b hi).2.2.1];exact(World.cells?_some (hr i b hi).1).2.1)
      (by
        intro i hi j hj
        rw[hxl]at hi
        obtain⟨b,hb⟩:∃b,r[i]? =some b:=⟨_,zA0 (by omega)⟩
        have hg1:r.getD i ([],[])=b:=by rw[List.getD,hb];rfl
        obtain⟨k1,k2,k3⟩:=hr i b hb
        obtain⟨_,q2,q3⟩:=World.cells?_some k1
        have:=q3 j hj
        rw[Go.Ab.z4t,Go.Ab.z4t,Nat.add_assoc]at this
        rw[hg1]
        obtain⟨v,hv⟩:∃v,b.2[j]? =some v:=⟨_,zA0 (by omega)⟩
        have hgv:b.2.getD j undef=v:=by rw[List.getD,hv];rfl
        rw[hgv]
        exact⟨this.trans hv,k3.2.1 v (zA2 hv)⟩)
      (by
        intro i x hx j y hy
        rw[zAd]at hx
        cases hb:r[i]? with
        | none=>rw[hb]at hx;simp at hx
        | some b =>
         rw[hb]at hx;simp at hx;subst hx
         have hg1:r.getD i ([],[])=b:=by rw[List.getD,hb];rfl
         obtain⟨k1,k2,k3⟩:=hr i b hb
         have hj:j<b.2.length:=by rw[←k3.1];exact(zA1.1 hy).1
         obtain⟨v,hv⟩:∃v,b.2[j]? =some v:=⟨_,zA0 hj⟩
         have hgv:b.2.getD j undef=v:=by rw[List.getD,hv];rfl
         rw[hg1,hgv]
         exact k3.2.2 j y v hy hv)
     rw[hxl]at this
     exact this
  | struct fs =>
   simp only[zA7,beq_iff_eq]at hg
   obtain⟨hfs,hlay⟩:=hg
   obtain⟨xs,n,hfu,_,hcl,hxl,hf⟩:=DataW.trod_struct hu h
   obtain⟨r,hr1,hr2⟩:=za9 (p:=fun i (f:Field) (b:List D)=>Sh P f.type b∧CD W own b ((cs.drop f.offset).take (P.cellsOf f.type))) fs.toList 0 fun i f hif=>by
    have h1:=hf i f (by simpa using hif)
    have hi:i<fs.size:=by have:=(zA1.1 hif).1;simpa using this
    rw[zA0 (by omega)]at h1
    have hfg:f.type∈G:=List.contains_iff_mem.1 (List.all_eq_true.1 hfs f (zA2 hif))
    obtain⟨ds,h2,h3⟩:=ih n (by omega) f.type _ _ hfg h1
    exact⟨ds,h2,h3⟩
   obtain⟨e1,_⟩:=zr9 cs fs.toList 0 _ hlay (by omega)
   rw[List.drop_zero,Nat.sub_zero,←hcl,List.take_length]at e1
   refine⟨r.flatten,.struct t fs.toList r (by simpa using hu) hr1 fun i f x h1 h2=>(hr2 i f x h1 h2).1,?_⟩
   rw[←e1]
   refine zry r _ (by simp[hr1]) fun i a b ha hb=>?_
   rw[zAd]at hb
   cases hif:fs.toList[i]? with
   | none=>rw[hif]at hb;simp at hb
   | some f=>rw[hif]at hb;simp at hb;subst hb;exact(hr2 i f a hif ha).2
  | _=>simp at hg
theorem ztl{W:World}{own:Nat→Prop}(hsep:∀g o v,own g→W.cell? ⟨g,o,none⟩=some v→∃z,v=.int .u8 z){t:TypeId}{v:Value}{d:DataW H}{p:List MemPlace}{r:Reach}{b0:Nat}{G:List TypeId}(hG:zka P G=true)(hN:y3c P G=true)(ht:G.contains t=true)(hval:Value.okWide P W r b0 t v)
 (h:DataW.Trod enc P W 0 (fun _=>true) true t v d p):∃ds,Sh P t ds∧((∃fs,P.underlying t=some (.struct fs))→DR W own (.agg ds) v)∧(∀x,ds=[x]→(∀fs,P.underlying t≠some (.struct fs))→DR W own x v):=by
 obtain⟨fuel,h⟩:=h
 obtain⟨ds,h1,h2⟩:=y2g hsep hG hN fuel t _ _ (List.contains_iff_mem.1 ht) h
 refine⟨ds,h1,fun⟨fs,hs⟩=>?_,fun x hx hn=>?_⟩
 ·obtain⟨cs,rfl,_⟩:=okWide_struct hs hval
  simp only[Value.cells]at h2
  have:=DR.agg ds cs.toList h2.1 h2.2.1 h2.2.2
  simpa using this
 ·subst hx
  have hc:v.cells.toList=[v]:=by
   have hg:=List.all_eq_true.1 hG t (List.contains_iff_mem.1 ht)
   cases hu:P.underlying t with
   | none=>rw[hu]at hg;simp at hg
   | some u =>
    rw[hu]at hg
    cases u with
    | bool=>obtain⟨b,rfl⟩:=okWide_bool hu hval;rfl
    | int k=>obtain⟨b,rfl⟩:=okWide_int hu hval;rfl
    | string=>obtain⟨b,rfl⟩:=okWide_string hu hval;rfl
    | slice e=>obtain⟨a,l,c,rfl⟩:=okWide_slice hu hval;rfl
    | struct fs=>exact absurd hu (hn fs)
    | _=>simp at hg
  rw[hc]at h2
  exact h2.2.2 0 x v rfl rfl
end Go.Ab
namespace Go.Ab
open Go.ChangeShapes Go.WideShapes Go.ChangeAt Go.RowKit
variable{P:Program}
theorem zj2{g0 g1:Nat}(hgg:g0≠g1){f:FuncId}{ps:List PV}{vs:List Value}{o0 o1:Obj}(h:z1v P f ps [((0,700),.glob g0 o0),((0,701),.glob g1 o1)] [] (B true))(W:World)(h0:W.heap[g0]? =some o0)(h1:W.heap[g1]? =some o1)(hd0:∀x,o0≠.deferred x)(hd1:∀x,o1≠.deferred x)
 (hl:ps.length=vs.length) (ha:∀(β:Nm→Value) (j:Nat) (p:PV) (v:Value),ps[j]? =some p→vs[j]? =some v→PR β W (fun g=>g=g0∨g=g1) p v) :
 Calls P f vs.toArray W fun e W'=>e=.returned (.bool true)∧∃own',Ext W (fun _=>False) W' own':=by
 let β:Nm→Value:=fun m=>if m=(0,700)then .pointer (some ⟨g0,0,none⟩)else if m=(0,701)then .pointer (some ⟨g1,0,none⟩)else undef
 let H:Hf:=fun d s=>if d=0∧s=700 then some (.glob g0 o0)else if d=0∧s=701 then some (.glob g1 o1)else none
 have hlook:∀n b,z19 H n=some b→(n=(0,700)∧b=.glob g0 o0)∨(n=(0,701)∧b=.glob g1 o1):=by
  rintro⟨d,s⟩ b hb
  cases d with
  | zero =>
   simp only[z19,H,true_and]at hb
   by_cases e1:s=700
   ·rw[zAz e1]at hb;simp at hb;subst hb e1;exact .inl ⟨rfl,rfl⟩
   ·rw[zAy e1]at hb
    by_cases e2:s=701
    ·rw[zAz e2]at hb;simp at hb;subst hb e2;exact .inr ⟨rfl,rfl⟩
    ·rw[zAy e2]at hb;cases hb
  | succ d =>
   simp only[z19,H]at hb
   simp at hb
 have l0:z19 H (0,700)=some (.glob g0 o0):=rfl
 have l1:z19 H (0,701)=some (.glob g1 o1):=rfl
 have hHR:HR H β (fun g=>g=g0∨g=g1) W:=by
  refine⟨fun n b hb=>?_,fun n m bn bm hn hm _ _ hne g hg=>?_,fun g hg=>?_⟩
  ·rcases hlook n b hb with⟨rfl,rfl⟩|⟨rfl,rfl⟩
   ·exact .glob g0 o0 (.inl rfl) h0 hd0
   ·exact .glob g1 o1 (.inr rfl) h1 hd1
  ·rcases hlook n bn hn with⟨rfl,rfl⟩|⟨rfl,rfl⟩ <;> rcases hlook m bm hm with⟨rfl,rfl⟩|⟨rfl,rfl⟩
   ·exact absurd rfl hne
   ·have eb0:z2h (β (0,700))=some g0:=rfl
    have eb1:z2h (β (0,701))=some g1:=rfl
    rw[eb0]at hg;rw[eb1];simp at hg⊢;omega
   ·have eb0:z2h (β (0,700))=some g0:=rfl
    have eb1:z2h (β (0,701))=some g1:=rfl
    rw[eb1]at hg;rw[eb0];simp at hg⊢;omega
   ·exact absurd rfl hne
  ·rcases hg with rfl|rfl
   ·exact(Array.getElem?_eq_some_iff.1 h0).1
   ·exact(Array.getElem?_eq_some_iff.1 h1).1
 have hsp:=h H (fun q hq=>by
  simp only[zAc,List.not_mem_nil,or_false]at hq
  rcases hq with rfl|rfl <;> rfl)
 refine(hsp.run β (fun g=>g=g0∨g=g1) W vs hHR ⟨hl,fun j p v h1 h2=>ha β j p v h1 h2⟩).mono fun e W' ⟨v,r,H',own',he,⟨hr,hH'⟩,hv,hheap,hE⟩=>?_
 subst hr hH'
 cases hv with
 | v _ _ hp =>
  refine⟨by rw[he,PR.lit hp],fun _=>False,hE.os,hE.tape,hE.output,hE.size,fun b hb _=>?_,fun _ _ h=>h⟩
  have gg0:W'.heap[g0]? =some o0:=by
   have:=hheap.blk (0,700) (.glob g0 o0) l0
   generalize hx:β (0,700)=x at this
   cases this with|glob _ _ _ hg _=>exact hg
  have gg1:W'.heap[g1]? =some o1:=by
   have:=hheap.blk (0,701) (.glob g1 o1) l1
   generalize hx:β (0,701)=x at this
   cases this with|glob _ _ _ hg _=>exact hg
  by_cases e0:b=g0
  ·rw[e0,gg0,h0]
  by_cases e1:b=g1
  ·rw[e1,gg1,h1]
  exact hE.block b hb (by simp only[not_or];exact⟨e0,e1⟩)
end Go.Ab
