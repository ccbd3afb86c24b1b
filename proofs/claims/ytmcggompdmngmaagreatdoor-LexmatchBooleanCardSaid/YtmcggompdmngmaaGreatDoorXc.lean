/- A part. -/
import Derived.Test.YtmcggompdmngmaaGreatDoorXb
import Derived.WalkSpells
import Derived.Lib.SliceRun
import Derived.Laws.BytesArg
import Derived.ProofKit
import Derived.Sort.Row
import Derived.Sort.Grow
import Derived.Laws.Pointers
import Derived.ArgAppend
import Derived.Below
import Derived.Shelf.GgSortFunc.InsertionK
import Derived.Lib.AppendStr
import Derived.WideKeyRuns
import Derived.Laws.IdiomRangeMap
set_option linter.all false
namespace Go.Ab
variable{P:Program}{f:FuncId}{R:z2y}{k:List Item}{all:Array Oper}{o:Oper}{l:List Oper}
variable{n:Nat}{tm:List (Nat × PV)}{hp:Hp}{up:Hf}{d:Nat}{ty:TypeId}{pos:String}{aft:Array Edge}{gd:Option (Nat × Bool)}{op:Op}{p:PV}
def PV.taker(m:Nm)(y:Nat):PV→PV
 | .ref q=>if q == m then .ref (0,y)else .ref q
 | p=>p
def zi5(m:Nm)(y:Nat):List (Nat × PV)→List (Nat × PV)
 | []=>[]
 | (t,p)::r=>(t,p.taker m y)::zi5 m y r
theorem zby{m:Nm}{y:Nat}:∀ {tm:List (Nat × PV)} {t:Nat},look (zi5 m y tm) t=(look tm t).map (PV.taker m y)
 | [],t=>rfl
 | (k,p)::r,t=>by
  simp only[zi5,look]
  split
  ·rfl
  ·exact zby
theorem z1k(y md ms:Nat){raw:Blk}(hb:up md ms=some raw)(hl:raw.live=true)(hfr:(z0i y hp&&z0p y tm)=true)
 (h:Run P f R k ⟨n,(100000+y,.al (0,y) (md+1,ms))::zi5 (md+1,ms) y tm,(y,raw.lift (md+1))::hp,upd up (md,ms) .gone⟩):Run P f R k ⟨n,tm,hp,up⟩:=by
 refine Run.step (fun β own a w hr b cs=>⟨z4b β y (β (md+1,ms)),own,a,w,?_,Ext.refl _ _,z1p _ _ _,.refl _ _⟩) h
 have hne:((md+1,ms):Nm)≠(0,y):=by simp
 simp only[zA7]at hfr
 have hlook:z0d (push hp up) (md+1,ms)=some (raw.lift (md+1)):=by simp[z0d,push,hb]
 have hl':(raw.lift (md+1)).live=true:=by rw[Blk.lift_live];exact hl
 have hr0:HR (push hp (upd up (md,ms) .gone)) β own w:=by rw[z5a];exact hr.heap.drop (md+1,ms)
 have key:∀m c,z0d (push hp (upd up (md,ms) .gone)) m=some c→c.live=true→m≠(md+1,ms)∧z0d (push hp up) m=some c:=by
  exact zD102
 refine⟨hr.size,hr.defers,fun t p hp'=>?_,?_⟩
 ·simp only[look]at hp'
  split at hp'
  ·simp at hp';subst hp'
   exact .al _ _ (by rw[z0w,z1x _ _ _ _ hne]) _
  ·rw[zby]at hp'
   cases hq:look tm t with
   | none=>rw[hq]at hp';cases hp'
   | some q =>
    rw[hq]at hp';simp at hp';subst hp'
    have h1:=hr.tm t q hq
    have h2:=h1.reβ (β':=z4b β y (β (md+1,ms))) (0,y) (z1x β y _) (z6a hfr.2 hq)
    generalize a.tmps.getD t undef=v at h1 h2
    cases q with
    | ref q =>
     simp only[PV.taker]
     split
     ·rename_i e;simp at e;subst e
      cases h1 with|ref _=>have:=PR.ref (β:=z4b β y (β (md+1,ms))) (w:=w) (own:=own) (0,y);rw[z0w]at this;exact this
     ·exact h2
    | _=>exact h2
 ·exact zD49
theorem z08{H:Hf}{m:Nm}{b c:Blk}{d s:Nat}(h:H d s=some c)(hne:¬(d=m.1∧s=m.2)):upd H m b d s=some c:=by
 simp only[upd];rw[zAy hne];exact h
theorem zfz{α:Type}:∀(cs ps:List α),ps.length=cs.length→z0g cs 0 ps=ps
 | [],[],_=>rfl
 | [],_::_,h=>by simp at h
 | _::_,[],h=>by simp at h
 | c::cs,p::ps,h=>by rw[z0g,zfz cs ps (by simpa using h)]
end Go.Ab
namespace Go.Ab
variable{P:Program}{ty tx ty':TypeId}{x y z:Operand}{k k2:IntKind}{a b:Int}
def zkr(k:IntKind)(a b:Int):Int:=k.wrap (a*2 ^ (min b.toNat k.bits))
def zr8(k:IntKind)(a b:Int):Int:=a.fdiv (2 ^ (min b.toNat k.bits))
def zf3(k:IntKind)(a b:Int):Int:=k.wrap ((BitVec.ofInt k.bits a &&& BitVec.ofInt k.bits b).toNat:Int)
def orV(k:IntKind)(a b:Int):Int:=k.wrap ((BitVec.ofInt k.bits a ||| BitVec.ofInt k.bits b).toNat:Int)
def zzi(k:IntKind)(a b:Int):Int:=k.wrap ((BitVec.ofInt k.bits a ^^^ BitVec.ofInt k.bits b).toNat:Int)
theorem zmn(h0:0≤b):Val P (.binOp .shl tx x y ty') ty [(x,I k a),(y,I k2 b)] [] (I k (zkr k a b)):=fun d pos aft gd n tm hp up hd hx _ =>
 z63 hx.1 hx.2.1 hd rfl fun w=>by
  have h:¬b<0:=by omega
  simp[eqGuard,binOp,Op.shift,h,zkr]
theorem z99(h0:0≤b):Val P (.binOp .shr tx x y ty') ty [(x,I k a),(y,I k2 b)] [] (I k (zr8 k a b)):=fun d pos aft gd n tm hp up hd hx _ =>
 z63 hx.1 hx.2.1 hd rfl fun w=>by
  have h:¬b<0:=by omega
  simp[eqGuard,binOp,Op.shift,h,zr8]
theorem z4r:Val P (.binOp .and tx x y ty') ty [(x,I k a),(y,I k b)] [] (I k (zf3 k a b)):=fun d pos aft gd n tm hp up hd hx _ =>
 z63 hx.1 hx.2.1 hd rfl fun w=>by simp[eqGuard,binOp,Op.intBits,zf3]
theorem zc7:Val P (.binOp .or tx x y ty') ty [(x,I k a),(y,I k b)] [] (I k (orV k a b)):=fun d pos aft gd n tm hp up hd hx _ =>
 z63 hx.1 hx.2.1 hd rfl fun w=>by simp[eqGuard,binOp,Op.intBits,orV]
theorem y88:Val P (.binOp .xor tx x y ty') ty [(x,I k a),(y,I k b)] [] (I k (zzi k a b)):=fun d pos aft gd n tm hp up hd hx _ =>
 z63 hx.1 hx.2.1 hd rfl fun w=>by simp[eqGuard,binOp,Op.intBits,zzi]
theorem zdt(h0:0≤a)(h1:b.toNat≤k.bits):zr8 k a b=a / 2 ^ b.toNat:=by
 rw[zr8,Nat.min_eq_left h1,Int.fdiv_eq_ediv_of_nonneg _ (Int.pow_nonneg (by omega))]
theorem y4l(a:Int)(h0:0≤a):zr8 .u64 a 1=a / 2:=by
 rw[zdt h0 (by decide)];rfl
theorem zr4{x:Int}(h1:0≤x)(h2:x<18446744073709551616):IntKind.u64.wrap x=x:=by
 simp only[IntKind.wrap,IntKind.bits,IntKind.signed]
 simp
 omega
theorem zfs(h0:0≤a):Val P (.binOp .shr tx x y ty') ty [(x,I .u64 a),(y,I k2 1)] [] (I .u64 (a / 2)):=by
 have:=z99 (P:=P) (ty:=ty) (tx:=tx) (ty':=ty') (x:=x) (y:=y) (k:=.u64) (k2:=k2) (a:=a) (b:=1) (by omega)
 rwa [y4l a h0]at this
end Go.Ab
namespace Go.Ab
section
variable{ops:List Oper}{es:List Eff}{s:St}{P:Program}{f:FuncId}{R:z2y}{k:List Item}
theorem zpu{L:List Nat}{m:Nat}(h:Lin ops L)(hm:∀i∈L,i<m):Lin (ops.take m) L:=by
 induction h with
 | nil=>exact .nil
 | snoc L i o h hn ho hr ih =>
  exact .snoc L i o (ih fun j hj=>hm j (by simp[hj])) hn (by rw[List.getElem?_take,zAz (hm i (by simp))];exact ho) hr
theorem zeo{L:List Nat}(h:Lin ops L):L.Nodup:=by
 induction h with
 | nil=>simp
 | snoc L i o h hn ho hr ih=>rw[List.nodup_append];exact⟨ih,by simp,fun a ha b hb=>by simp at hb;subst hb;exact fun e=>hn (e▸ha)⟩
def ze5(ms:List Nat)(m n:Nat):Bool:=(List.range n).all fun j=>decide (j<m)||(List.range j).all fun i=>(ms.getD j 0).testBit i
theorem zdr{ms:List Nat}{m n:Nat}(h:ze5 ms m n=true){j i:Nat}(hj:m≤j)(hn:j<n)(hi:i<j):(ms.getD j 0).testBit i=true:=by
 simp only[ze5,List.all_eq_true,List.mem_range,zAu,zA3]at h
 rcases h j hn with h|h
 ·omega
 ·exact h i hi
theorem y5h(hback:z74 ops 0=true){m:Nat}(htail:ze5 (zal [] ops) m ops.length=true):∀(fuel tt:Nat) (listed:Array Bool) (L:List Nat) (m':Nat),m≤m'→m'≤ops.length→(∀i,listed.getD i false=true↔i∈L)→listed.size=ops.length→Lin ops L→(∀i,i∈L↔i<m')→ops.length≤fuel+m' →
 (Region.linearise.go .any ops.toArray fuel tt listed []).map (fun i=>ops.toArray[i]?)=(ops.drop m').map some:=by
 intro fuel
 induction fuel with
 | zero =>
  intro tt listed L m' h1 h2 hlist hsz hL hm hle
  have:m'=ops.length:=by omega
  subst this
  simp[Region.linearise.go]
 | succ fuel ih =>
  intro tt listed L m' h1 h2 hlist hsz hL hm hle
  simp only[Region.linearise.go]
  change (match(Region.ready .any ops.toArray listed)[tt % (Region.ready .any ops.toArray listed).length]? with
   | some i=>Region.linearise.go .any ops.toArray fuel (tt / (Region.ready .any ops.toArray listed).length) (listed.setIfInBounds i true) [i]
   | none=>[].reverse).map (fun i=>ops.toArray[i]?)=_
  cases hi:(Region.ready .any ops.toArray listed)[tt % (Region.ready .any ops.toArray listed).length]? with
  | none =>
   have hnil:Region.ready .any ops.toArray listed=[]:=by
    exact zD38
   have hall:=z7z hback hlist hsz hnil
   have:m'=ops.length:=by
    apply Classical.byContradiction
    intro hne
    have:=(hm m').1 (hall m' (by omega))
    omega
   subst this
   simp
  | some i =>
   have hmem:i∈Region.ready .any ops.toArray listed:=zA2 hi
   obtain⟨hun,o,ho,hedges⟩:=mem_ready.1 hmem
   have ho':ops[i]? =some o:=by simpa using ho
   have hilt:i<ops.length:=(zA1.1 ho').1
   have hnL:i∉L:=fun hx=>by
    exact zD69
   have hL':Lin ops (L++[i]):=.snoc L i o hL hnL ho' fun e he hb=>(hlist _).1 (hedges e (by simpa using he) hb)
   have him:i=m':=by
    have h3:¬i<m':=fun h=>hnL ((hm i).2 h)
    apply Classical.byContradiction
    intro hne
    have hbit:=zdr htail (j:=i) (i:=m') (by omega) hilt (by omega)
    have:=z6b ops ops [] [] rfl rfl (by simp) i m' hbit L hL'
    have:=(hm m').1 this
    omega
   subst him
   simp only[]
   rw[linearise_go_acc,List.reverse_singleton,List.singleton_append,List.map_cons]
   have hd:ops.drop i=o::ops.drop (i+1):=by
    rw[zA1]at ho'
    rw[List.drop_eq_getElem_cons hilt,ho'.2]
   rw[hd,List.map_cons,ho]
   congr 1
   refine ih _ _ (L++[i]) (i+1) (by omega) (by omega) (fun j=>?_) (by simpa using hsz) hL' (fun j=>?_) (by omega)
   ·exact zD85
   ·rw[zAt,hm];simp;omega
theorem zzs{m:Nat}(hes:es.length=m)(hmo:m≤ops.length)(hchk:z5r (ops.take m) s es=true)(hback:z74 ops 0=true)(htail:ze5 (zal [] ops) m ops.length=true){t:St}(htext:Text s es t)
 (hloc:∀i e,es[i]? =some e→Loc P f R ops.toArray k s.n i e) (h:Ops P f R ops.toArray (ops.drop m) k t) :
 ∀(fuel tt:Nat) (listed:Array Bool) (L:List Nat),(∀i,listed.getD i false=true↔i∈L)→listed.size=ops.length→Lin ops L→(∀i∈L,i<m)→ops.length≤fuel+L.length →
  Run P f R (.inRegion ops.toArray (Region.linearise.go .any ops.toArray fuel tt listed [])::k) (after es s L):=by
 -- all of the first part done
 have done:∀(fuel tt:Nat) (listed:Array Bool) (L:List Nat),(∀i,listed.getD i false=true↔i∈L)→listed.size=ops.length→Lin ops L→(∀i,i∈L↔i<m)→ops.length≤fuel+m →
  Run P f R (.inRegion ops.toArray (Region.linearise.go .any ops.toArray fuel tt listed [])::k) (after es s L):=by
  intro fuel tt listed L hlist hsz hL hall hle
  have hg:=y5h hback htail fuel tt listed L m (zAj _) hmo hlist hsz hL hall hle
  have hr:=h _ hg
  obtain⟨h1,h2⟩:=zpf hchk (zpu hL fun i hi=>(hall i).1 hi) fun i hi=>(hall i).2 (by omega)
  rw[←htext.state.1]at h1 h2
  refine Run.same_view (s:=t) ?_ h1 h2 ?_ hr
  ·rw[htext.state.1,zbk,zbk]
  ·rw[yba,yba t];funext d x;exact h2 _
 intro fuel
 induction fuel with
 | zero =>
  intro tt listed L hlist hsz hL hlm hle
  have hlen:=nodup_lt_length m L (zeo hL) hlm
  refine done 0 tt listed L hlist hsz hL (fun i=>⟨hlm i,fun hi=>?_⟩) (by omega)
  apply Classical.byContradiction
  intro hn
  have:=nodup_lt_length m (i::L) (List.nodup_cons.2 ⟨hn,zeo hL⟩) (fun x hx=>by
   simp at hx
   rcases hx with rfl|hx
   ·exact hi
   ·exact hlm x hx)
  simp at this
  omega
 | succ fuel ih =>
  intro tt listed L hlist hsz hL hlm hle
  by_cases hfull:∀i,i<m→i∈L
  ·have hlen:m≤L.length:=by
    have:=nodup_lt_length m (List.range m) List.nodup_range (by simp)
    have h2:∀(A B:List Nat),A.Nodup→(∀x∈A,x∈B)→A.length≤B.length:=by
     intro A
     induction A with
     | nil=>intro B _ _;simp
     | cons a A ihA =>
      intro B hnd hsub
      obtain⟨ha,hnd'⟩:=List.nodup_cons.1 hnd
      have haB:=hsub a (by simp)
      have:=ihA (B.erase a) hnd' fun x hx=>by
       have:x≠a:=fun e=>ha (e▸hx)
       exact(List.mem_erase_of_ne this).2 (hsub x (by simp[hx]))
      rw[List.length_erase_of_mem haB]at this
      have hpos:0<B.length:=List.length_pos_of_mem haB
      simp;omega
    have:=h2 (List.range m) L List.nodup_range fun x hx=>hfull x (by simpa using hx)
    simpa using this
   have hlen2:=nodup_lt_length m L (zeo hL) hlm
   exact done (fuel+1) tt listed L hlist hsz hL (fun i=>⟨hlm i,hfull i⟩) (by omega)
  ·simp only[Region.linearise.go]
   change Run P f R (.inRegion ops.toArray (match(Region.ready .any ops.toArray listed)[tt % (Region.ready .any ops.toArray listed).length]? with
    | some i=>Region.linearise.go .any ops.toArray fuel (tt / (Region.ready .any ops.toArray listed).length) (listed.setIfInBounds i true) [i]
    | none=>[].reverse)::k) (after es s L)
   cases hi:(Region.ready .any ops.toArray listed)[tt % (Region.ready .any ops.toArray listed).length]? with
   | none =>
    exfalso
    have hnil:Region.ready .any ops.toArray listed=[]:=by
     exact zD38
    exact hfull fun i hi=>z7z hback hlist hsz hnil i (by omega)
   | some i =>
    have hmem:i∈Region.ready .any ops.toArray listed:=zA2 hi
    obtain⟨hun,o,ho,hedges⟩:=mem_ready.1 hmem
    have ho':ops[i]? =some o:=by simpa using ho
    have hilt:i<ops.length:=(zA1.1 ho').1
    have hnL:i∉L:=fun hx=>by
     exact zD69
    have hL':Lin ops (L++[i]):=.snoc L i o hL hnL ho' fun e he hb=>(hlist _).1 (hedges e (by simpa using he) hb)
    have him:i<m:=by
     apply Classical.byContradiction
     intro hge
     refine hfull fun j hj=>?_
     have hbit:=zdr htail (j:=i) (i:=j) (by omega) hilt (by omega)
     exact z6b ops ops [] [] rfl rfl (by simp) i j hbit L hL'
    have hLm':∀j∈L++[i],j<m:=fun j hj=>by
     simp at hj
     rcases hj with hj|rfl
     ·exact hlm j hj
     ·exact him
    simp only[]
    rw[linearise_go_acc,List.reverse_singleton,List.singleton_append]
    have hag:=zg4 hchk htext (zpu hL' hLm')
    refine hloc i _ (getD_eq (by omega)) (after es s L) (zbk es L s) hag _ ?_
    rw[←z2z]
    refine ih _ _ (L++[i]) (fun j=>?_) (by simpa using hsz) hL' hLm' (by simp;omega)
    exact zD85
def zkh(ops:List Oper)(s:St)(es:List Eff):Bool:=decide (es.length≤ops.length)&&z5r (ops.take es.length) s es&&z74 ops 0&&ze5 (zal [] ops) es.length ops.length
theorem y5r{id:Nat}(hmix:P.follows .mixedOrders=true)(hchk:zkh ops s es=true){t:St}(htext:Text s es t)(hloc:∀i e,es[i]? =some e→Loc P f R ops.toArray k s.n i e)(h:Ops P f R ops.toArray (ops.drop es.length) k t) :
 Run P f R (.code (.region id ops.toArray true)::k) s:=by
 simp only[zkh,zA7,zA3]at hchk
 obtain⟨⟨⟨h1,h2⟩,h3⟩,h4⟩:=hchk
 intro β own a w hrep b hb hk hn cs
 have hlen:(Array.replicate ops.toArray.size false).size=ops.length:=by simp
 have key:=zzs rfl h1 h2 h3 h4 htext hloc h ops.toArray.size (w.tape w.drawn (.order b.fn id)) (Array.replicate ops.toArray.size false) [] (fun i=>by simp[Array.getElem?_replicate];split <;> simp) hlen .nil (by simp) (by simp)
 exact zD39
variable{id:Nat}{s0:St}{done:List Eff}{l:List Oper}
theorem zc1(hmix:P.follows .mixedOrders=true)(hchk:zkh ops s0 done=true)(h:Ops P f R ops.toArray l k s):Tr P f R id ops k s0 done s l :=
 fun⟨pre,hops,hlen⟩ hloc htext _=>y5r hmix hchk htext hloc (by rw[hops,←hlen,List.drop_left,←hops];exact h)
end
end Go.Ab
namespace Go.Ab
variable{P:Program}{f:FuncId}{R:z2y}{k:List Item}{all:Array Oper}{o:Oper}{l:List Oper}
variable{n:Nat}{tm:List (Nat × PV)}{hp:Hp}{up:Hf}{d:Nat}{ty:TypeId}{pos:String}{aft:Array Edge}{gd:Option (Nat × Bool)}{op:Op}{p:PV}
variable{k':List Item}{s s':St}
theorem Run.stepV (h:∀β own a w,Rep s β own a w→∀(b:Frame) cs,∃β' own' a' w',Rep s' β' own' a' w'∧Ext w own w' own'∧(∀n,¬R.vol n→z5p β' n=z5p β n) ∧
  Steps P (lone (am b a k) cs w) (lone (am b a' k') cs w')) (hr:Run P f R k' s'):Run P f R k s:=by
 intro β own a w hrep b hb hk hn cs
 obtain⟨β',own',a',w',hrep',hext,ho,hst⟩:=h β own a w hrep b cs
 refine(((hr β' own' a' w' hrep' b hb hk ?_ cs).same ho).ext hext).of_steps hst
 unfold za6 at hn⊢
 cases hm:R.rnd with
 | none=>rw[hm]at hn;exact hn
 | some m =>
  rw[hm]at hn
  obtain⟨hv,L,h1,h2⟩:=hn
  exact⟨hv,L,h1,(ho m hv).trans h2⟩
def PV.alias(a b:Nm):PV→PV
 | .ref q=>if q == b then .ref a else .ref q
 | p=>p
def za7(a b:Nm):List PV→List PV
 | []=>[]
 | p::r=>p.alias a b::za7 a b r
def Blk.alias(a b:Nm):Blk→Blk
 | .box cs=>.box (za7 a b cs)
 | .rowp e cs=>.rowp e (za7 a b cs)
 | q=>q
def z2v(a b:Nm):Hp→Hp
 | []=>[]
 | (t,q)::r=>(t,q.alias a b)::z2v a b r
theorem zb3(a b:Nm):∀(cs:List PV) (j:Nat),(za7 a b cs)[j]? =(cs[j]?).map (PV.alias a b)
 | [],j=>by simp[za7]
 | p::r,0=>by simp[za7]
 | p::r,j+1=>by simp[za7,zb3 a b r j]
theorem zbq(a b:Nm):∀cs:List PV,(za7 a b cs).length=cs.length
 | []=>rfl
 | p::r=>by simp[za7,zbq a b r]
theorem z61{a b:Nm}:∀ {hp:Hp} {t:Nat},look (z2v a b hp) t=(look hp t).map (Blk.alias a b)
 | [],t=>rfl
 | (k,p)::r,t=>by
  simp only[z2v,look]
  split
  ·rfl
  ·exact z61
theorem PR.alias{β:Nm→Value}{w:World}{own:Nat→Prop}{a b:Nm}(hab:β a=β b){p:PV}{v:Value}(h:PR β w own p v):PR β w own (p.alias a b) v:=by
 cases h with
 | ref q =>
  simp only[PV.alias]
  split
  ·rename_i e;simp at e;subst e;rw[←hab];exact .ref _
  ·exact .ref _
 | any=>exact .any _
 | d _ _ h=>exact .d _ _ h
 | ptr m off g h=>exact .ptr m off g h
 | eptr cs g o c h1 h2 h3 h4=>exact .eptr cs g o c h1 h2 h3 h4
 | rptr m k i off g len cap h=>exact .rptr m k i off g len cap h
 | rsub m k lo len L cap a h h1 h2=>exact .rsub m k lo len L cap a h h1 h2
 | al m m' h v=>exact .al m m' h v
 | agg cs vs h1 h2 h3=>exact .agg cs vs h1 h2 h3
 | tup cs vs h1 h2=>exact .tup cs vs h1 h2
 | fn f a b c d e g h i=>exact .fn f a b c d e g h i
 | yl m L h=>exact .yl m L h
 | full xs a h=>exact .full xs a h
theorem BR.alias{β:Nm→Value}{w:World}{own:Nat→Prop}{a b:Nm}(hab:β a=β b){v:Value}{q:Blk}(h:BR β w own v q):BR β w own v (q.alias a b):=by
 cases h with
 | box g t cs cur ho hg hl h1 hd =>
  refine .box g t _ cur ho hg (by rw[zbq];exact hl) h1 fun j x u hx hu=>?_
  exact zD118
 | row v e k xs vs ho hk hr hd=>exact .row v e k xs vs ho hk hr hd
 | rowp v e cs vs ho hr h1 hd =>
  refine .rowp v e _ vs ho (by rw[zbq];exact hr) h1 fun j x u hx hu=>?_
  exact zD118
 | siter g s pos ho hg=>exact .siter g s pos ho hg
 | gmap g cur clock ho hg=>exact .gmap g cur clock ho hg
 | mit h g since seen last ho hg=>exact .mit h g since seen last ho hg
 | glob g o ho hg hd=>exact .glob g o ho hg hd
 | mp g clock es cur ho hg hl hd hb hc=>exact .mp g clock es cur ho hg hl hd hb hc
 | lp g n' f ps asg body st state pending tmps df ho hg hl hd=>exact .lp g n' f ps asg body st state pending tmps df ho hg hl hd
 | gone v=>exact .gone v
theorem Blk.alias_live(a b:Nm)(q:Blk):(q.alias a b).live=q.live:=by cases q <;> rfl
theorem HR.alias{β:Nm→Value}{own:Nat→Prop}{w:World}{a b:Nm}(hab:β a=β b)(h:HR (push hp up) β own w):HR (push (z2v a b hp) up) β own w:=by
 have key:∀m c,z0d (push (z2v a b hp) up) m=some c→(m.1=0∧∃q,z0d (push hp up) m=some q∧c=q.alias a b)∨z0d (push hp up) m=some c:=by
  rintro⟨e,t⟩ c hc
  cases e with
  | zero =>
   left
   have hc':look (z2v a b hp) t=some c:=hc
   rw[z61]at hc'
   cases hq:look hp t with
   | none=>rw[hq]at hc';cases hc'
   | some q=>rw[hq]at hc';simp at hc';exact⟨rfl,q,hq,hc'.symm⟩
  | succ e=>right;exact hc
 refine⟨fun m c hc=>?_,fun m1 m2 c1 c2 h1 h2 l1 l2 hne=>?_,h.lt⟩
 ·rcases key m c hc with⟨_,q,hq,rfl⟩|hq
  ·exact(h.blk m q hq).alias hab
  ·exact h.blk m c hq
 ·have g:∀m c,z0d (push (z2v a b hp) up) m=some c→c.live=true→∃q,z0d (push hp up) m=some q∧q.live=true:=by
   intro m c hc hl
   rcases key m c hc with⟨_,q,hq,rfl⟩|hq
   ·exact⟨q,hq,by rwa [Blk.alias_live]at hl⟩
   ·exact⟨c,hq,hl⟩
  obtain⟨q1,e1,f1⟩:=g m1 c1 h1 l1
  obtain⟨q2,e2,f2⟩:=g m2 c2 h2 l2
  exact h.inj m1 m2 q1 q2 e1 e2 f1 f2 hne
theorem z3l(t:Nat){a b:Nm}(hal:look tm t=some (.al a b))(h:Run P f R k ⟨n,tm,z2v a b hp,up⟩):Run P f R k ⟨n,tm,hp,up⟩:=by
 refine Run.le (s:=⟨n,tm,z2v a b hp,up⟩) (fun β own ac w hr=>⟨β,rfl,hr.size,hr.defers,hr.tm,?_⟩) h
 have hab:β a=β b:=by
  have:=hr.tm _ _ hal
  generalize ac.tmps.getD t undef=v at this
  cases this with|al _ _ h _=>exact h
 exact hr.heap.alias hab
def z6f(m:Nm):List (Nat × PV)→List (Nat × PV)
 | []=>[]
 | (t,p)::r=>(t,if p.says m then .any else p)::z6f m r
theorem z5o{m:Nm}:∀ {tm:List (Nat × PV)} {t:Nat},look (z6f m tm) t=(look tm t).map fun p=>if p.says m then .any else p
 | [],t=>rfl
 | (k,p)::r,t=>by
  simp only[z6f,look]
  split
  ·rfl
  ·exact z5o
theorem PR.drop{β β':Nm→Value}{w:World}{own:Nat→Prop}{m:Nm}(hb:∀q,q≠m→β' q=β q){p:PV}{v:Value}(h:PR β w own p v):PR β' w own (if p.says m then .any else p) v:=by
 split
 ·exact .any _
 ·rename_i hs
  exact h.reβ m hb (by simpa using hs)
def z2m(m:Nm):Hp→Bool
 | []=>true
 | (_,b)::r=>!b.says m&&z2m m r
theorem z38{m:Nm}:∀ {hp:Hp} {t:Nat} {b:Blk},z2m m hp=true→look hp t=some b→b.says m=false
 | [],t,b,_,h=>by simp[look]at h
 | (k,c)::r,t,b,hf,h=>by
  simp only[z2m,zA7,zA6]at hf
  simp only[look]at h
  split at h
  ·simp at h;subst h;exact hf.1
  ·exact z38 hf.2 h
def Quiet(H:Hf)(ms:Nat):Prop:=∀s b,H 0 s=some b→b.says (0,ms)=false
theorem zb9(m:Nm)(d s:Nat):((m.1+1,m.2) == ((d+1,s):Nm))=(m == (d,s)):=by
 obtain⟨a,b⟩:=m
 rw[Bool.eq_iff_iff]
 simp
mutual
theorem PV.lift_says1(d s:Nat):∀p:PV,(p.lift 1).says (d+1,s)=p.says (d,s)
 | .ptr m off=>by simp only[PV.lift,PV.says,zb9]
 | .ref m=>by simp only[PV.lift,PV.says,zb9]
 | .rptr m _ _ _=>by simp only[PV.lift,PV.says,zb9]
 | .rsub m _ _ _=>by simp only[PV.lift,PV.says,zb9]
 | .al a b=>by simp only[PV.lift,PV.says,zb9]
 | .agg cs=>by simp only[PV.lift,PV.says];exact PV.liftL_says1 d s cs
 | .tup vs=>by simp only[PV.lift,PV.says];exact PV.liftL_says1 d s vs
 | .fn f a b=>by simp only[PV.lift,PV.says];rw[PV.liftL_says1 d s a,PV.liftL_says1 d s b]
 | .yl m=>by simp only[PV.lift,PV.says,zb9]
 | .full _=>rfl
 | .any=>rfl
 | .d _=>rfl
 | .eptr _=>rfl
theorem PV.liftL_says1(d s:Nat):∀ps:List PV,PV.saysL (d+1,s) (PV.liftL 1 ps)=PV.saysL (d,s) ps
 | []=>rfl
 | p::ps=>by simp only[PV.liftL,PV.saysL];rw[PV.lift_says1 d s p,PV.liftL_says1 d s ps]
end
theorem zc2(d s:Nat):∀st:List (Nat × PV),z2f (d+1,s) (z1w 1 st)=z2f (d,s) st
 | []=>rfl
 | (t,p)::r=>by simp only[z1w,z2f];rw[PV.lift_says1 d s p,zc2 d s r]
theorem Blk.lift_says1(d s:Nat)(b:Blk):(b.lift 1).says (d+1,s)=b.says (d,s):=by
 cases b with
 | box cs=>exact PV.liftL_says1 d s cs
 | rowp _ cs=>exact PV.liftL_says1 d s cs
 | lp _ _ _ _ _ st _ _=>exact zc2 d s st
 | _=>rfl
theorem Blk.lift_comp(d:Nat)(b:Blk):b.lift (d+1)=(b.lift d).lift 1:=(Blk.lift_lift d b).symm
theorem Blk.lift_says0(d t s:Nat)(b:Blk):(b.lift (d+t+1)).says (t,s)=false:=by
 induction t generalizing d with
 | zero=>exact Blk.lift_says s d b
 | succ t ih=>rw[show d+(t+1)+1=(d+t+1)+1 by omega,Blk.lift_comp,Blk.lift_says1];exact ih d
theorem z2r(y ms:Nat){e kk:Nat}{xs:List (List D)}(hb:look hp y=some (.row e kk xs))(hg:up 0 ms=some .gone)(hvol:R.vol (0,ms))(hq:z2m (1,ms) hp=true)(hup:Quiet up ms)
 (h:Run P f R k ⟨n,z6f (1,ms) tm,(y,.gone)::z2v (1,ms) (0,y) hp,upd up (0,ms) (.row e kk xs)⟩):Run P f R k ⟨n,tm,hp,up⟩:=by
 refine Run.stepV (s:=⟨n,tm,hp,up⟩) (s':=⟨n,z6f (1,ms) tm,(y,.gone)::z2v (1,ms) (0,y) hp,upd up (0,ms) (.row e kk xs)⟩) (fun β own a w hr b' fs=>?_) h
 let β':Nm→Value:=fun m=>if m=(1,ms)then β (0,y)else β m
 have hne:∀m,m≠(1,ms)→β' m=β m:=fun m hm=>by simp[β',hm]
 have hsame:β' (1,ms)=β' (0,y):=by simp[β']
 have hy:β' (0,y)=β (0,y):=hne _ (by simp)
 -- the blocks as before, said by β'
 have hold:∀m c,z0d (push hp up) m=some c→c.says (1,ms)=false:=by
  rintro⟨dd,t⟩ c hc
  match dd,hc with
  | 0,hc=>exact z38 hq hc
  | 1,hc =>
   simp only[z0d,push]at hc
   cases hu:up 0 t with
   | none=>rw[hu]at hc;cases hc
   | some q=>rw[hu]at hc;simp at hc;subst hc;rw[Blk.lift_says1];exact hup t q hu
  | dd+2,hc =>
   simp only[z0d,push]at hc
   cases hu:up (dd+1) t with
   | none=>rw[hu]at hc;cases hc
   | some q=>rw[hu]at hc;simp at hc;subst hc;exact Blk.lift_says0 dd 1 ms q
 have h1:HR (push hp up) β' own w:=by
  refine⟨fun m c hc=>?_,fun m1 m2 c1 c2 e1 e2 l1 l2 hn=>?_,hr.heap.lt⟩
  ·by_cases hm:m=(1,ms)
   ·subst hm
    have hc2:z0d (push hp up) (1,ms)=some .gone:=by simp[z0d,push,hg,Blk.lift]
    rw[hc2]at hc;simp at hc;subst hc;exact .gone _
   ·rw[hne m hm];exact(hr.heap.blk m c hc).reβ (1,ms) hne (hold m c hc)
  ·have hg1:∀m c,z0d (push hp up) m=some c→c.live=true→m≠(1,ms):=by
    rintro m c hc hl rfl
    have hc2:z0d (push hp up) (1,ms)=some .gone:=by simp[z0d,push,hg,Blk.lift]
    rw[hc2]at hc;simp at hc;subst hc;cases hl
   rw[hne m1 (hg1 m1 c1 e1 l1),hne m2 (hg1 m2 c2 e2 l2)]
   exact hr.heap.inj m1 m2 c1 c2 e1 e2 l1 l2 hn
 have h2:=h1.alias (hp:=hp) hsame
 refine⟨β',own,a,w,⟨hr.size,hr.defers,fun t p hp'=>?_,?_⟩,Ext.refl _ _,fun m hm=>?_,.refl _ _⟩
 ·exact zD100
 · -- the row moves from the own name to the caller's
   have hrow:z0d (push (z2v (1,ms) (0,y) hp) up) (0,y)=some (.row e kk xs):=by
    show look (z2v (1,ms) (0,y) hp) y=_
    rw[z61,hb];rfl
   have key:∀m c,z0d (push ((y,.gone)::z2v (1,ms) (0,y) hp) (upd up (0,ms) (.row e kk xs))) m=some c→c.live=true→(m=(1,ms)∧c=.row e kk xs)∨(m≠(1,ms)∧m≠(0,y)∧z0d (push (z2v (1,ms) (0,y) hp) up) m=some c):=by
    intro m c hm hc
    rw[z1l]at hm
    by_cases e1:m=(0,y)
    ·rw[zAz e1]at hm;simp at hm;subst hm;cases hc
    ·rw[zAy e1,z5a,z2k]at hm
     by_cases e2:m=(1,ms)
     ·rw[zAz e2]at hm;simp[atF,Blk.lift]at hm;exact .inl ⟨e2,hm.symm⟩
     ·rw[zAy e2]at hm;exact .inr ⟨e2,e1,hm⟩
   exact zD19
 ·refine hne _ fun e=>hm ?_
  simp only[Prod.mk.injEq]at e
  have:m=(0,ms):=Prod.ext (by omega) e.2
  subst this
  exact hvol
def y06(H:Hf)(bs:List (Nm × Blk))(ms:Nat):Prop:=∀s b,(∀q∈bs,q.1≠(0,s))→H 0 s=some b→b.says (0,ms)=false
def z27(P:Program)(g:FuncId)(args:List PV)(bs hs:List (Nm × Blk))(p:PV)(ms:Nat):Prop :=
 ∀H:Hf,(∀q∈bs,H q.1.1 q.1.2=some q.2)→y06 H bs ms→z9f P g args H ⟨fun r H'=>r=.v p∧H'=z6j H hs,fun n=>n=(0,ms),none⟩
end Go.Ab
namespace Go.Ab
end Go.Ab
namespace Go.Ab
variable{P:Program}{f:FuncId}{R:z2y}{k:List Item}{all:Array Oper}{l:List Oper}
variable{n:Nat}{tm:List (Nat × PV)}{hp:Hp}{up:Hf}{d:Nat}{ty:TypeId}{pos:String}{aft:Array Edge}{gd:Option (Nat × Bool)}{p:PV}
end Go.Ab
namespace Go.Ab
variable{P:Program}{f:FuncId}{R:z2y}{k:List Item}{all:Array Oper}{l:List Oper}
variable{n:Nat}{tm:List (Nat × PV)}{hp:Hp}{up:Hf}
theorem zie(a b:Nat){q:Blk}(hb:look hp a=some q)(hab:(!(a == b)&&!q.says (0,b))=true)(h:Ops P f R all l k ⟨n,z9a a b tm,(b,q)::(a,.gone)::zd5 a b hp,up⟩):Ops P f R all l k ⟨n,tm,hp,up⟩ :=
 fun is his=>y0c a b hb hab (h is his)
theorem zg9(ms j x e kk:Nat){cs:List PV}(hb:look hp ms=some (.box cs))(hj:cs[j]? =some (.d (.lit z2n)))(hk:(decide (0<kk)&&!(ms == x))=true)(hfr:(z0i x hp&&z0p x tm)=true)
 (h:Ops P f R all l k ⟨n,tm,(ms,.box (cs.set j (.ref (0,x))))::(x,.row e kk [])::hp,up⟩):Ops P f R all l k ⟨n,tm,hp,up⟩ :=
 fun is his=>z2j ms j x e kk hb hj hk hfr (h is his)
end Go.Ab
namespace Go.Ab
variable{P:Program}{ty:TypeId}{x:Operand}
theorem zhh{src dst e:TypeId}{ts td te:TI}{l:List Int}[hs:z0n P src ts][hd':z0n P dst td][he:z0n P e te](hks:ts.kind=.slice e)(hkd:td.kind=.str)(hke:te.kind=.int .u8) :
 Val P (.convert src dst x) ty [(x,.d (.slice (l.map fun n=>[.lit (.int .u8 n)])))] [] (S (strOfNums l)):=fun d pos aft gd n tm hp up hd hx _ =>
 z0k rfl hd fun β own ac w hrp=>by
  have h1:=hrp.ev hx.1
  generalize hv:ac.eval x=v at h1
  refine⟨.string (strOfNums l),?_,PR.S _⟩
  cases h1 with
  | d _ _ h1 =>
   have key:(convert src dst v).run P w=.ok (.string (strOfNums l)) w:=by
    generalize hxs:(l.map fun n=>[D.lit (Value.int .u8 n)])=xs at h1
    cases h1 with
    | nil a cap =>
     have:l=[]:=List.map_eq_nil_iff.1 hxs
     subst this
     cases a with
     | none=>exact run_convert_bytes_nil w src e (hs.slice hks) (he.int hke) 0 cap dst (hd'.str hkd)
     | some a =>
      rw[run_convert_bytes_string w src dst e _ 0 cap (hs.slice hks) (he.int hke) (hd'.str hkd),run_bytesToString w a 0 cap [] (by
       have:=run_loadCells_list (P:=P) w a [] fun j v hj=>by simp at hj
       simpa using this)]
      rfl
    | slice _ g o cap k c hc hown hlt hk hcell hdd =>
     subst hxs
     rw[zA4]
     refine run_convert_bytes_arg w src e (hs.slice hks) (he.int hke) g o l.length cap l rfl (fun i hi=>?_) dst (hd'.str hkd)
     have hl1:(l.map fun n=>[D.lit (Value.int .u8 n)])[i]? =some [D.lit (.int .u8 (l.getD i 0))]:=by
      rw[zAd,zA0 hi,List.getD,zA0 hi];rfl
     have hk1:k=1:=by
      have:=hk _ (zA2 hl1);simpa using this.symm
     subst hk1
     have h2:=hcell i (by simpa using hi) 0 (by omega)
     have h3:=hdd i _ hl1 0 _ (by simp;rfl)
     have h4:c i 0=.int .u8 (l.getD i 0):=by
      generalize c i 0=u at h3
      cases h3 with
      | lit _ h=>rfl
     rw[←h4];simpa using h2.1
   simp only[execOp,hv]
   rw[Sem.run_bind,key];rfl
end Go.Ab
namespace Go.Ab
variable{P:Program}{f:FuncId}{R:z2y}{k:List Item}{all:Array Oper}{l:List Oper}{n:Nat}{tm:List (Nat × PV)}{hp:Hp}{up:Hf}
theorem z7s{m:Nm}{p:PV}(hp:p.says m=false):∀(cs:List PV) (j:Nat),PV.saysL m cs=false→PV.saysL m (cs.set j p)=false
 | [],j,h=>by simpa using h
 | c::cs,0,h=>by
  exact zD137
 | c::cs,j+1,h=>by
  simp only[PV.saysL,Bool.or_eq_false_iff]at h
  simp only[List.set_cons_succ,PV.saysL,Bool.or_eq_false_iff]
  exact⟨h.1,z7s hp cs j h.2⟩
end Go.Ab
namespace Go.Ab
theorem zjz{s:St}:∀ {es:List Eff} {fs:List Nat},es.flatMap (·.free)=fs→(fs.all fun d=>z0i d s.hp&&z0p d s.tm)=true→zft s es=true
 | [],fs,h,h2=>rfl
 | e::r,fs,h,h2=>by
  subst h
  rw[List.flatMap_cons,List.all_append,zA7]at h2
  rw[zft,zA7]
  exact⟨h2.1,zjz rfl h2.2⟩
theorem zta{ops:List Oper}{s:St}{es:List Eff}{fs:List Nat}(h:(decide (es.length≤ops.length)&&((ops.take es.length).length == es.length&&zb1 (zal [] (ops.take es.length)) [] es&&z74 (ops.take es.length) 0)&&z74 ops 0&&ze5 (zal [] ops) es.length ops.length)=true)(hf:es.flatMap (·.free)=fs)(hf2:(fs.all fun d=>z0i d s.hp&&z0p d s.tm)=true):zkh ops s es=true:=by
 have:=zjz hf hf2
 simp only[zkh,z5r,zA7]at h⊢
 obtain⟨⟨⟨h1,h2⟩,h3⟩,h4⟩:=h
 exact⟨⟨⟨h1,⟨h2,this⟩⟩,h3⟩,h4⟩
open Go.ChangeShapes Go.WideShapes Go.ChangeAt Go.RowKit
theorem Ext.toBelow{w w':World}{own':Nat→Prop}(h:Ext w (fun _=>False) w' own'):Below w.heap.size w w' :=
 ⟨h.os,h.tape,h.output,h.size,fun k hk=>h.block k hk fun f=>f⟩
theorem Below.kept{w w':World}(h:Below w.heap.size w w')(may:MemPlace→Prop):w.keptBut w' may:=by
 refine⟨h.os,h.output,fun i hi=>?_⟩
 rw[h.block i hi]
 cases hb:w.heap[i]? with
 | none=>rfl
 | some o=>cases o <;> simp
section
variable{H:Type}{enc:TypeId × Value→H}{P:Program}
theorem za1(hl:laidOutB P=true){W W':World}(hb:Below W.heap.size W W'):∀ {ts:List TypeId} {vs:List Value} {ds:List (DataW H)} {ps:List MemPlace},
 ts.all (fun t=>P.readableRec t&&decide (t<P.types.size))=true→(∀x∈ps,x.block<W.heap.size)→DataW.TrodAll enc P W 0 (fun _=>true) true ts vs ds ps →
 DataW.TrodAll enc P W' 0 (fun b=>decide (b<W.heap.size)) true ts vs ds ps
 | [],vs,ds,ps,_,_,h=>by
  obtain⟨rfl,rfl,rfl⟩:=trodAll_nil h
  exact trodAll_mk0
 | t::ts,vs,ds,ps,hp,hlt,h=>by
  obtain⟨v,vs',d,ds',p,q,rfl,rfl,rfl,h1,h2⟩:=trodAll_cons h
  simp only[List.all_cons,zA7,zA3]at hp
  exact⟨p,q,Below.trod hl hp.1.1 hp.1.2 h1 hb fun x hx=>hlt x (by simp[hx]),za1 hl hb hp.2 (fun x hx=>hlt x (by simp[hx])) h2,rfl⟩
theorem zyk{fn:Func}{s:ChangeSpec}{W W':World}{own':Nat→Prop}{args:Array Value}{ds gs:List (DataW H)}{before:List MemPlace}{tb:TypeId}(hl:laidOutB P=true)
 (hp:fn.params.toList.all (fun t=>P.readableRec t&&decide (t<P.types.size))=true) (hW:DataW.Whole enc P fn.params.toList s.vars false W args.toList ds gs before) (hE:Ext W (fun _=>False) W' own')
 (hv:s.vars=[]) (hs:s.fn H ds={ results:=[.lit (.bool true)],args:=ds }) (hr:fn.resultTypes=#[tb]) (hb:P.underlying tb=some .bool) :
 s.post enc P fn false true false false W args (.bool true) W':=by
 have hlt:=hW.lt
 have hW':=hW
 obtain⟨p,q,hA,hV,rfl,hfz,hnd⟩:=hW
 rw[hv]at hV
 obtain⟨rfl,rfl⟩:=trodVars_none hV
 simp only[List.append_nil]at hlt hfz hnd hW'
 refine⟨ds,[],p,[],p,[],hW',?_,?_,?_,Below.kept hE.toBelow _,fun h=>by cases h⟩
 ·rw[List.append_nil,hs,hr]
  exact trodAll_mk1 (shut_bool hb _)
 ·rw[List.append_nil,hs]
  exact za1 hl hE.toBelow hp hlt hA
 ·rw[List.append_nil,hs,hv]
  rfl
end
end Go.Ab
namespace Go.Ab
open Go.ChangeShapes Go.WideShapes Go.ChangeAt Go.RowKit
inductive Sh(P:Program):TypeId→List D→Prop where
 | int (t:TypeId) (k:IntKind) (z:Int) (ht:P.underlying t=some (.int k)) (h1:k.min≤z) (h2:z≤k.max):Sh P t [.lit (.int k z)]
 | bool (t:TypeId) (b:Bool) (ht:P.underlying t=some .bool):Sh P t [.lit (.bool b)]
 | str (t:TypeId) (s:ByteArray) (ht:P.underlying t=some .string) (hs:s.size≤maxLen):Sh P t [.lit (.string s)]
 | slice (t e:TypeId) (xs:List (List D)) (ht:P.underlying t=some (.slice e)) (hl:xs.length≤maxLen) (hx:∀x∈xs,Sh P e x):Sh P t [.slice xs]
 | struct (t:TypeId) (fs:List Field) (parts:List (List D)) (ht:P.underlying t=some (.struct fs.toArray)) (hl:parts.length=fs.length) (hp:∀(i:Nat) (f:Field) (x:List D),fs[i]? =some f→parts[i]? =some x→Sh P f.type x):Sh P t parts.flatten
def y8e(P:Program):Nat→List Field→Option Nat
 | o,[]=>some o
 | o,f::r=>if f.offset=o then y8e P (o+P.cellsOf f.type) r else none
def zmq(P:Program)(G:List TypeId):Bool:=G.all fun t=>match P.underlying t with
 | some .bool=>true
 | some (.int _)=>true
 | some .string=>true
 | some (.slice e)=>G.contains e&&decide (0<P.cellsOf e)
 | some (.struct fs)=>fs.toList.all (fun f=>G.contains f.type)&&y8e P 0 fs.toList == some (P.cellsOf t)
 | _=>false
def CD(w:World)(own:Nat→Prop)(ds:List D)(cs:List Value):Prop :=
 ds.length=cs.length∧(∀v∈cs,v.oneCell'=true)∧∀(j:Nat) (x:D) (v:Value),ds[j]? =some x→cs[j]? =some v→DR w own x v
theorem CD.one{w:World}{own:Nat→Prop}{x:D}{v:Value}(h:DR w own x v)(h1:v.oneCell'=true):CD w own [x] [v] :=
 ⟨rfl,by simpa using h1,fun j y u hy hu=>by
   cases j with
   | zero=>simp at hy hu;subst hy;subst hu;exact h
   | succ j=>simp at hy⟩
theorem CD.nil{w:World}{own:Nat→Prop}:CD w own [] []:=⟨rfl,by simp,by simp⟩
theorem CD.append{w:World}{own:Nat→Prop}{a b:List D}{u v:List Value}(h:CD w own a u)(h':CD w own b v):CD w own (a++b) (u++v):=by
 refine⟨by simp[h.1,h'.1],fun x hx=>?_,fun j x y hx hy=>?_⟩
 ·rw[zAt]at hx
  exact hx.elim (h.2.1 x) (h'.2.1 x)
 ·by_cases hj:j<a.length
  ·rw[zAb hj]at hx
   rw[zAb (by rw[←h.1];exact hj)]at hy
   exact h.2.2 j x y hx hy
  ·rw[zAg (by omega)]at hx
   rw[zAg (by rw[←h.1];omega)]at hy
   rw[←h.1]at hy
   exact h'.2.2 _ x y hx hy
theorem zv7{P:Program}(cs:List Value):∀(fs:List Field) (o e:Nat),y8e P o fs=some e→e≤cs.length→(fs.map fun f=>(cs.drop f.offset).take (P.cellsOf f.type)).flatten=(cs.drop o).take (e-o)∧o≤e
 | [],o,e,h,he=>by simp[y8e]at h;subst h;simp
 | f::r,o,e,h,he=>by
  rw[y8e]at h
  split at h
  ·rename_i ho
   obtain⟨h1,h2⟩:=zv7 cs r _ e h he
   refine⟨?_,by omega⟩
   rw[List.map_cons,List.flatten_cons,h1,ho,show e-o=P.cellsOf f.type+(e-(o+P.cellsOf f.type)) by omega,List.take_add,List.drop_drop]
  ·cases h
variable{H:Type}{enc:TypeId × Value→H}{P:Program}
theorem zuq{w:World}{own:Nat→Prop}:∀(parts:List (List D)) (vs:List (List Value)),parts.length=vs.length→(∀(i:Nat) (a:List D) (b:List Value),parts[i]? =some a→vs[i]? =some b→CD w own a b)→CD w own parts.flatten vs.flatten
 | [],[],_,_=>CD.nil
 | a::p,b::v,hl,h=>by
  rw[List.flatten_cons,List.flatten_cons]
  exact(h 0 a b rfl rfl).append (zuq p v (by simpa using hl) fun i x y hx hy=>h (i+1) x y (by simpa using hx) (by simpa using hy))
 | [],_::_,h,_=>by simp at h
 | _::_,[],h,_=>by simp at h
theorem z92{α β:Type}{p:Nat→α→β→Prop}:∀(l:List α) (o:Nat),(∀(i:Nat) (a:α),l[i]? =some a→∃b,p (o+i) a b)→∃r:List β,r.length=l.length∧∀(i:Nat) (a:α) (b:β),l[i]? =some a→r[i]? =some b→p (o+i) a b
 | [],o,h=>⟨[],rfl,by simp⟩
 | x::l,o,h=>by
  obtain⟨b,hb⟩:=h 0 x rfl
  obtain⟨r,h1,h2⟩:=z92 l (o+1) fun i a ha=>by
   obtain⟨c,hc⟩:=h (i+1) a (by simpa using ha)
   exact⟨c,by rw[show o+1+i=o+(i+1) by omega];exact hc⟩
  refine⟨b::r,by simp[h1],fun i a c ha hc=>?_⟩
  cases i with
  | zero=>simp at ha hc;subst ha;subst hc;exact hb
  | succ i =>
   have:=h2 i a c (by simpa using ha) (by simpa using hc)
   rw[show o+(i+1)=o+1+i by omega];exact this
theorem Sh.inv_int{t:TypeId}{ds:List D}{k:IntKind}(h:Sh P t ds)(ht:P.underlying t=some (.int k)):∃z:Int,ds=[.lit (.int k z)]∧k.min≤z∧z≤k.max:=by
 cases h with
 | int _ k' z h1 h2 h3=>rw[ht]at h1;simp at h1;subst h1;exact⟨z,rfl,h2,h3⟩
 | bool _ b h1=>rw[ht]at h1;simp at h1
 | str _ s h1=>rw[ht]at h1;simp at h1
 | slice _ e xs h1=>rw[ht]at h1;simp at h1
 | struct _ fs p h1=>rw[ht]at h1;simp at h1
theorem Sh.inv_str{t:TypeId}{ds:List D}(h:Sh P t ds)(ht:P.underlying t=some .string):∃s:ByteArray,ds=[.lit (.string s)]∧s.size≤maxLen:=by
 cases h with
 | int _ k' z h1 h2 h3=>rw[ht]at h1;simp at h1
 | bool _ b h1=>rw[ht]at h1;simp at h1
 | str _ s h1 hs=>exact⟨s,rfl,hs⟩
 | slice _ e xs h1=>rw[ht]at h1;simp at h1
 | struct _ fs p h1=>rw[ht]at h1;simp at h1
theorem Sh.inv_slice{t e:TypeId}{ds:List D}(h:Sh P t ds)(ht:P.underlying t=some (.slice e)):∃xs:List (List D),ds=[.slice xs]∧xs.length≤maxLen∧∀x∈xs,Sh P e x:=by
 cases h with
 | int _ k' z h1 h2 h3=>rw[ht]at h1;simp at h1
 | bool _ b h1=>rw[ht]at h1;simp at h1
 | str _ s h1 hs=>rw[ht]at h1;simp at h1
 | slice _ e' xs h1 h2 h3=>rw[ht]at h1;simp at h1;subst h1;exact⟨xs,rfl,h2,h3⟩
 | struct _ fs p h1=>rw[ht]at h1;simp at h1
theorem Sh.inv_list{t e:TypeId}{ds:List D}{α:Type}(f:α→List D)(Q:α→Prop)(h:Sh P t ds)(ht:P.underlying t=some (.slice e))(he:∀x,Sh P e x→∃a,x=f a∧Q a):∃l:List α,ds=[.slice (l.map f)]∧l.length≤9223372036854775807∧∀a∈l,Q a:=by
 obtain⟨xs,rfl,h1,h2⟩:=h.inv_slice ht
 have:∀xs:List (List D),(∀x∈xs,Sh P e x)→∃l:List α,xs=l.map f∧∀a∈l,Q a:=by
  intro xs
  induction xs with
  | nil=>exact fun _=>⟨[],rfl,by simp⟩
  | cons x xs ih =>
   intro h
   obtain⟨a,ha,hq⟩:=he x (h x (by simp))
   obtain⟨l,hl,hq'⟩:=ih fun y hy=>h y (by simp[hy])
   exact⟨a::l,by rw[ha,hl];rfl,by simpa using⟨hq,hq'⟩⟩
 obtain⟨l,hl,hq⟩:=this xs h2
 refine⟨l,by rw[hl],?_,hq⟩
 have:=congrArg List.length hl
 simp[maxLen]at this h1⊢
 omega
def ShL(P:Program):List TypeId→List D→Prop
 | [],ds=>ds=[]
 | t::ts,ds=>∃a b,ds=a++b∧Sh P t a∧ShL P ts b
theorem Sh.inv_struct{t:TypeId}{ds:List D}{fs:Array Field}(h:Sh P t ds)(ht:P.underlying t=some (.struct fs)):ShL P (fs.toList.map (·.type)) ds:=by
 cases h with
 | int _ k' z h1 h2 h3=>rw[ht]at h1;simp at h1
 | bool _ b h1=>rw[ht]at h1;simp at h1
 | str _ s h1 hs=>rw[ht]at h1;simp at h1
 | slice _ e' xs h1 h2 h3=>rw[ht]at h1;simp at h1
 | struct _ fs' p h1 hl hp =>
  rw[ht]at h1;simp at h1
  subst h1
  have:∀(fs:List Field) (p:List (List D)),p.length=fs.length→(∀(i:Nat) (f:Field) (x:List D),fs[i]? =some f→p[i]? =some x→Sh P f.type x)→ShL P (fs.map (·.type)) p.flatten:=by
   intro fs
   induction fs with
   | nil=>intro p hl _;cases p with|nil=>rfl|cons _ _=>simp at hl
   | cons f fs ih =>
    intro p hl hp
    cases p with
    | nil=>simp at hl
    | cons x p =>
     exact⟨x,p.flatten,rfl,hp 0 f x rfl rfl,ih p (by simpa using hl) fun i g y h1 h2=>hp (i+1) g y (by simpa using h1) (by simpa using h2)⟩
  simpa using this fs' p hl hp
def fieldTypes(P:Program)(t:TypeId):Option (List TypeId):=match P.underlying t with
 | some (.struct fs)=>some (fs.toList.map (·.type))
 | _=>none
theorem z7y{t:TypeId}{ts:List TypeId}(h:fieldTypes P t=some ts):∃fs,P.underlying t=some (.struct fs)∧fs.toList.map (·.type)=ts:=by
 unfold fieldTypes at h
 cases hu:P.underlying t with
 | none=>rw[hu]at h;simp at h
 | some u =>
  rw[hu]at h
  cases u <;> simp at h
  exact⟨_,rfl,by simpa using h⟩
theorem Sh.inv_fields{t:TypeId}{ds:List D}{ts:List TypeId}(h:Sh P t ds)(ht:fieldTypes P t=some ts):ShL P ts ds:=by
 obtain⟨fs,h1,h2⟩:=z7y ht
 rw[←h2];exact h.inv_struct h1
end Go.Ab
namespace Go.Ab
open Go.RowKit Go.Sort
theorem zss{w:World}{g:Nat}{cur:Array Value}{e:TypeId}{off:Nat}(h:w.heap[g]? =some (.cells cur e (0,0))):w.frozen? ⟨g,off,none⟩=false:=by
 simp[World.frozen?,h]
theorem cell_of{w:World}{g:Nat}{cur:Array Value}{e:TypeId}{off:Nat}(h:w.heap[g]? =some (.cells cur e (0,0))):w.cell? ⟨g,off,none⟩=cur[off]?:=by
 simp[World.cell?,h]
theorem zfv{P:Program}{g:FuncId}{ps:List PV}{bs hs:List (Nm × Blk)}{p:PV}(hp:Plain P g)
 (h:∀(H:Hf),(∀q∈bs,H q.1.1 q.1.2=some q.2)→∀β own w vals,HR H β own w→z6x β w own ps vals→Calls P g vals.toArray w (yb6 (fun r H'=>r=.v p∧H'=z6j H hs) β own w)):z0u P g ps bs hs p :=
 fun H hH=>⟨hp,h H hH⟩
end Go.Ab
namespace Go.Ab
variable{P:Program}{f:FuncId}{R:z2y}{k:List Item}
variable{n:Nat}{tm:List (Nat × PV)}{hp:Hp}{up:Hf}
theorem PR.take{β:Nm→Value}{w:World}{own:Nat→Prop}{m:Nm}{y:Nat}{p:PV}{v:Value}(h:PR β w own p v)(hs:p.says (0,y)=false):PR (z4b β y (β m)) w own (p.take m y) v:=by
 have h2:=h.reβ (β':=z4b β y (β m)) (0,y) (z1x β y _) hs
 cases p with
 | ptr q off =>
  simp only[PV.take]
  split
  ·rename_i e;simp at e;subst e
   cases h with|ptr _ _ g hg=>exact .ptr _ _ g (by rw[z0w];exact hg)
  ·exact h2
 | _=>exact h2
end Go.Ab
namespace Go.Ab
variable{P:Program}{f:FuncId}{R:z2y}{k:List Item}{all:Array Oper}{o:Oper}{l:List Oper}
variable{n:Nat}{tm:List (Nat × PV)}{hp:Hp}{up:Hf}{d:Nat}{ty:TypeId}{pos:String}{aft:Array Edge}{gd:Option (Nat × Bool)}{op:Op}{p:PV}
variable{k':List Item}{s s':St}
theorem Blk.lift_saysN(b:Blk)(j x:Nat):∀i,(b.lift i).says (j+i,x)=b.says (j,x)
 | 0=>by
  cases b with
  | box cs =>
   exact zD43
  | rowp _ cs =>
   exact zD43
  | lp _ _ _ _ _ st _ _ =>
   show z2f (j,x) (z1w 0 st)=z2f (j,x) st
   have h0:∀p:PV,p.lift 0=p:=by
    intro p
    refine PV.rec (motive_1:=fun p=>p.lift 0=p) (motive_2:=fun ps=>PV.liftL 0 ps=ps) ?_ ?_ ?_ ?_ ?_ ?_ ?_ ?_ ?_ ?_ ?_ ?_ ?_ ?_ ?_ p <;> intros <;> simp_all [PV.lift,PV.liftL]
   have:∀st,z1w 0 st=st:=by
    intro st;induction st with
    | nil=>rfl
    | cons p r ih=>obtain⟨t,q⟩:=p;simp[z1w,h0,ih]
   rw[this]
  | _=>rfl
 | i+1=>by rw[Blk.lift_comp,←Nat.add_assoc,Blk.lift_says1];exact Blk.lift_saysN b j x i
def z73(H:Hf)(m:Nm):Prop:=∀e t b,e≤m.1→H e t=some b→b.says (m.1-e,m.2)=false
theorem zdg{H:Hf}{m:Nm}(h:z73 H m){x:Nm}{c:Blk}(hc:z0d H x=some c):c.says m=false:=by
 obtain⟨e,t⟩:=x
 obtain⟨md,ms⟩:=m
 cases e with
 | zero=>exact h 0 t c (zAf _) hc
 | succ e =>
  simp only[z0d]at hc
  cases hu:H (e+1) t with
  | none=>rw[hu]at hc;cases hc
  | some q =>
   rw[hu]at hc;simp at hc;subst hc
   by_cases hle:e+1≤md
   ·have:=h (e+1) t q hle hu
    have hl:=Blk.lift_saysN q (md-(e+1)) ms (e+1)
    rw[show md-(e+1)+(e+1)=md by omega]at hl
    rw[hl];exact this
   ·have:=Blk.lift_says0 (e-md) md ms q
    rw[show e-md+md+1=e+1 by omega]at this
    exact this
theorem zfo{m:Nat × Nat}(hq:z2m (m.1+1,m.2) hp=true)(hup:z73 up m):z73 (push hp up) (m.1+1,m.2):=by
 intro e t b he hb
 cases e with
 | zero=>exact z38 hq hb
 | succ e =>
  have:=hup e t b (by omega) hb
  simpa[Nat.add_sub_add_right]using this
theorem zlk(y md ms:Nat){e kk:Nat}{xs:List (List D)}(hb:look hp y=some (.row e kk xs))(hg:up md ms=some .gone)(hvol:R.vol (md,ms))(hq:z2m (md+1,ms) hp=true)(hup:z73 up (md,ms))
 (h:Run P f R k ⟨n,z6f (md+1,ms) tm,(y,.gone)::z2v (md+1,ms) (0,y) hp,upd up (md,ms) (.row e kk xs)⟩):Run P f R k ⟨n,tm,hp,up⟩:=by
 refine Run.stepV (s:=⟨n,tm,hp,up⟩) (s':=⟨n,z6f (md+1,ms) tm,(y,.gone)::z2v (md+1,ms) (0,y) hp,upd up (md,ms) (.row e kk xs)⟩) (fun β own a w hr b' fs=>?_) h
 let β':Nm→Value:=fun m=>if m=(md+1,ms)then β (0,y)else β m
 have hne:∀m,m≠(md+1,ms)→β' m=β m:=fun m hm=>by simp[β',hm]
 have hsame:β' (md+1,ms)=β' (0,y):=by simp[β']
 have hy:β' (0,y)=β (0,y):=hne _ (by simp)
 have hold:∀m c,z0d (push hp up) m=some c→c.says (md+1,ms)=false:=fun m c hc=>zdg (zfo (m:=(md,ms)) hq hup) hc
 have hgone:z0d (push hp up) (md+1,ms)=some .gone:=by simp[z0d,push,hg,Blk.lift]
 have h1:HR (push hp up) β' own w:=by
  exact zD31
 have h2:=h1.alias (hp:=hp) hsame
 refine⟨β',own,a,w,⟨hr.size,hr.defers,fun t p hp'=>?_,?_⟩,Ext.refl _ _,fun m hm=>?_,.refl _ _⟩
 ·exact zD100
 ·have hrow:z0d (push (z2v (md+1,ms) (0,y) hp) up) (0,y)=some (.row e kk xs):=by
   show look (z2v (md+1,ms) (0,y) hp) y=_
   rw[z61,hb];rfl
  have key:∀m c,z0d (push ((y,.gone)::z2v (md+1,ms) (0,y) hp) (upd up (md,ms) (.row e kk xs))) m=some c→c.live=true→(m=(md+1,ms)∧c=.row e kk xs)∨(m≠(md+1,ms)∧m≠(0,y)∧z0d (push (z2v (md+1,ms) (0,y) hp) up) m=some c):=by
   intro m c hm hc
   rw[z1l]at hm
   by_cases e1:m=(0,y)
   ·rw[zAz e1]at hm;simp at hm;subst hm;cases hc
   ·rw[zAy e1,z5a,z2k]at hm
    by_cases e2:m=(md+1,ms)
    ·rw[zAz e2]at hm;simp[atF,Blk.lift]at hm;exact .inl ⟨e2,hm.symm⟩
    ·rw[zAy e2]at hm;exact .inr ⟨e2,e1,hm⟩
  exact zD19
 ·refine hne _ fun e=>hm ?_
  simp only[Prod.mk.injEq]at e
  have:m=(md,ms):=Prod.ext (by omega) e.2
  subst this
  exact hvol
def zvg(H:Hf)(bs:List (Nm × Blk))(m:Nm):Prop:=∀e t b,e≤m.1→(∀q∈bs,q.1≠(e,t))→H e t=some b→b.says (m.1-e,m.2)=false
def z29(P:Program)(g:FuncId)(args:List PV)(bs hs:List (Nm × Blk))(p:PV)(m:Nm):Prop :=
 ∀H:Hf,(∀q∈bs,H q.1.1 q.1.2=some q.2)→zvg H bs m→z9f P g args H ⟨fun r H'=>r=.v p∧H'=z6j H hs,fun n=>n=m,none⟩
theorem zos{g:FuncId} (hc:∀β own a w,Rep s β own a w→∃vals w1 own1,(execOp a.eval o).run P w=.ok (.enter g vals) w1∧Ext w own w1 own1 ∧
  Calls P g vals w1 fun e w'=>∃v β' own' s',e=.returned v∧Rep s' β' own' (a.put o.dst v) w'∧Ext w1 own1 w' own'∧(∀x,¬R.vol x→z5p β' x=z5p β x)∧Ops P f R all l k s'):Op1 P f R all o l k s:=by
 intro i rest ho hrest β own a w hrep hw b hb hk hn cs
 obtain⟨vals,w1,own1,hrun,hext1,hcall⟩:=hc β own a w hrep
 obtain⟨e,w',fr,⟨v,β',own',s',rfl,hrep',hext,hout,hops⟩,hsteps,_,hleave⟩:=hcall (am b a (.inRegion all (i::rest)::k)::cs)
 have hn':za6 R (z5p β') b:=by
  exact zD98
 exact(((hops rest hrest β' own' _ w' hrep' b hb hk hn' cs).same hout).ext (hext1.trans hext)).of_steps (zlo ho hw hrun hsteps hleave)
def zf0(P:Program)(m:Nm)(args:List PV)(H:Hf)(R:zbh)(vol:Nm→Prop):Prop :=
 ∀β own w vals L,HR H β own w→z6x β w own args vals→β m=.pointer (some ⟨L,0,none⟩) →
  ∃g tmps asg body,(Instr.yield L vals.toArray).run P w=.ok (.round L g tmps asg body) w∧∀(c:Frame) cs,∃w' v r H' own' β',
   Steps P (lone (Frame.round L g tmps asg body .normal) (c::cs) w) (lone (c.finish v) cs w')∧R r H'∧RVR H' β' w' own' r v∧HR H' β' own' w'∧Ext w own w' own'∧∀x,¬vol x→β' x=β x
theorem zb6{m:Nm}{n':Nat}{f':FuncId}{ps:Array Tmp}{asg body:Code}{st:List (Nat × PV)}{pend:Option Code}(hrnd:R.rnd=some m)(hb:up m.1 m.2=some (.lp n' f' ps asg body st .ready pend))
 (h:Run P f R k ⟨n,tm,hp,upd up m (.lp n' f' ps asg body st .busy pend)⟩):Run P f R (.beginRound::k) ⟨n,tm,hp,up⟩:=by
 intro β own a w hrep b hb' hk hn cs
 have hn0:=hn
 unfold za6 at hn
 rw[hrnd]at hn
 obtain⟨hv,L,hL,hβ⟩:=hn
 have hlook:z0d (push hp up) (m.1+1,m.2)=some ((Blk.lp n' f' ps asg body st .ready pend).lift (m.1+1)):=by simp[z0d,push,hb]
 have hbr:=hrep.heap.blk _ _ hlook
 have hβ':β (m.1+1,m.2)=.pointer (some ⟨L,0,none⟩):=hβ
 simp only[Blk.lift]at hbr
 generalize hgv:β (m.1+1,m.2)=vv at hbr
 cases hbr with
 | lp g _ _ _ _ _ _ _ _ tmps df ho hg hl hd =>
  rw[hβ']at hgv
  simp at hgv
  subst hgv
  have hgl:L<w.heap.size:=(Array.getElem?_eq_some_iff.1 hg).1
  have hrun:=run_beginRound (P:=P) hg rfl
  obtain⟨w1,hw1⟩:∃w1,w.putObj L (.loop { state:=.busy,pending:=pend,fn:=f',tmps:=tmps,params:=ps,assign:=asg,body:=body,defers:=df })=w1:=⟨_,rfl⟩
  rw[show({ state:=LoopState.busy,pending:=pend,fn:=f',tmps:=tmps,params:=ps,assign:=asg,body:=body,defers:=df }:Loop)={ ({ state:=.ready,pending:=pend,fn:=f',tmps:=tmps,params:=ps,assign:=asg,body:=body,defers:=df }:Loop)with state:=.busy }from rfl]at hw1
  rw[hw1]at hrun
  have hoth:∀g,g≠L→w1.heap[g]? =w.heap[g]?:=fun g hg'=>by rw[←hw1];exact World.putObj_heap_other hg'
  have hhere:w1.heap[L]? =some (.loop { state:=.busy,pending:=pend,fn:=f',tmps:=tmps,params:=ps,assign:=asg,body:=body,defers:=df }):=by rw[←hw1];exact World.putObj_heap_same hgl
  have hsz:w1.heap.size=w.heap.size:=by rw[←hw1];simp
  have hE:Ext w own w1 own:=⟨by rw[←hw1];rfl,by rw[←hw1];rfl,by rw[←hw1];rfl,by omega,fun g hg' hog=>hoth g fun e=>hog (e▸ho),fun _ _ h=>h⟩
  have hR1:=hrep.heap.change (m:=(m.1+1,m.2)) (raw:=.lp n' f' ps asg body st .busy pend) hlook rfl hE hsz (fun g hg'=>hoth g fun e=>hg' (by rw[hβ',e];rfl)) (by
   rw[hβ']
   show BR β w1 own _ (.lp n' f' ps asg body (z1w (m.1+1) st) .busy pend)
   exact .lp L n' f' ps asg body _ .busy pend tmps df ho hhere hl fun t p hp=>(hd t p hp).mono hE)
  have hrep1:Rep ⟨n,tm,hp,upd up m (.lp n' f' ps asg body st .busy pend)⟩ β own a w1:=⟨hrep.size,hrep.defers,fun t p hp=>(hrep.tm t p hp).mono hE,by rw[show upd up m (.lp n' f' ps asg body st .busy pend)=upd up (m.1,m.2) (.lp n' f' ps asg body st .busy pend)from rfl,z5a];exact hR1⟩
  exact((h β own a w1 hrep1 b hb' hk hn0 cs).ext hE).of_steps (.one (stepR_beginRound hL hrun))
end Go.Ab
namespace Go.Ab
variable{P:Program}{f:FuncId}{R:z2y}{k:List Item}{all:Array Oper}{o:Oper}{l:List Oper}
variable{n:Nat}{tm:List (Nat × PV)}{hp:Hp}{up:Hf}{d:Nat}{ty:TypeId}{pos:String}{aft:Array Edge}{gd:Option (Nat × Bool)}{op:Op}{p:PV}
variable{k':List Item}{s s':St}
theorem zh8{H:Hf}{β:Nm→Value}{own:Nat→Prop}{w:World}(hr:HR H β own w){m:Nm}{n':Nat}{f':FuncId}{ps:Array Tmp}{asg body:Code}{st:List (Nat × PV)}{state:LoopState}{pend:Option Code}(hb:H m.1 m.2=some (.lp n' f' ps asg body st state pend)) :
 ∃L tmps df,β m=.pointer (some ⟨L,0,none⟩)∧own L∧w.heap[L]? =some (.loop { state,pending:=pend,fn:=f',tmps,params:=ps,assign:=asg,body,defers:=df })∧tmps.size=n' ∧
  ∀t q,(t,q)∈st→PR (inn β) w own (q.lift (m.1+1)) (tmps.getD t undef):=by
 obtain⟨md,ms⟩:=m
 cases md with
 | zero =>
  have hbr:=hr.blk (0,ms) _ (show z0d H (0,ms)=some _ from hb)
  generalize hgv:β (0,ms)=vv at hbr
  cases hbr with
  | lp g _ _ _ _ _ _ _ _ tmps df ho hg hl hd=>exact⟨g,tmps,df,rfl,ho,hg,hl,fun t q hq=>PR.lift (β:=inn β) (by rw[z62];exact hd t q hq)⟩
 | succ md =>
  have hbr:=hr.blk (md+1,ms) _ (show z0d H (md+1,ms)=some _ by simp only[z0d,hb];rfl)
  simp only[Blk.lift]at hbr
  generalize hgv:β (md+1,ms)=vv at hbr
  cases hbr with
  | lp g _ _ _ _ _ _ _ _ tmps df ho hg hl hd =>
   refine⟨g,tmps,df,rfl,ho,hg,hl,fun t q hq=>?_⟩
   have:=PR.lift (β:=inn β) (by rw[z62];exact hd t _ (z9e hq))
   rwa [PV.lift_lift]at this
theorem y2d{H:Hf}{β:Nm→Value}{own:Nat→Prop}{w:World}(hr:HR H β own w){m:Nm}{n':Nat}{f':FuncId}{ps:Array Tmp}{asg body:Code}{st:List (Nat × PV)}{state state':LoopState}{pend pend':Option Code}(hb:H m.1 m.2=some (.lp n' f' ps asg body st state pend))
 {L:Nat} {tmps:Array Value} {df:Nat} (hβ:β m=.pointer (some ⟨L,0,none⟩)) (ho:own L) (hg:w.heap[L]? =some (.loop { state,pending:=pend,fn:=f',tmps,params:=ps,assign:=asg,body,defers:=df })) :
 Ext w own (w.putObj L (.loop { state:=state',pending:=pend',fn:=f',tmps,params:=ps,assign:=asg,body,defers:=df })) own ∧
 HR (upd H m (.lp n' f' ps asg body st state' pend')) β own (w.putObj L (.loop { state:=state',pending:=pend',fn:=f',tmps,params:=ps,assign:=asg,body,defers:=df })):=by
 obtain⟨w1,hw1⟩:∃w1,w.putObj L (.loop { state:=state',pending:=pend',fn:=f',tmps,params:=ps,assign:=asg,body,defers:=df })=w1:=⟨_,rfl⟩
 rw[hw1]
 have hgl:L<w.heap.size:=(Array.getElem?_eq_some_iff.1 hg).1
 have hoth:∀g,g≠L→w1.heap[g]? =w.heap[g]?:=fun g hg'=>by rw[←hw1];exact World.putObj_heap_other hg'
 have hhere:w1.heap[L]? =some (.loop { state:=state',pending:=pend',fn:=f',tmps:=tmps,params:=ps,assign:=asg,body:=body,defers:=df }):=by rw[←hw1];exact World.putObj_heap_same hgl
 have hsz:w1.heap.size=w.heap.size:=by rw[←hw1];simp
 have hE:Ext w own w1 own:=⟨by rw[←hw1];rfl,by rw[←hw1];rfl,by rw[←hw1];rfl,by omega,fun g hg' hog=>hoth g fun e=>hog (e▸ho),fun _ _ h=>h⟩
 refine⟨hE,?_⟩
 obtain⟨md,ms⟩:=m
 cases md with
 | zero =>
  have hlook:z0d H (0,ms)=some (.lp n' f' ps asg body st state pend):=hb
  have hbr:=hr.blk (0,ms) _ hlook
  refine hr.change (m:=(0,ms)) (raw:=.lp n' f' ps asg body st state' pend') hlook rfl hE hsz (fun g hg'=>hoth g fun e=>hg' (by rw[hβ,e];rfl)) ?_
  show BR β w1 own (β (0,ms)) (.lp n' f' ps asg body st state' pend')
  exact zD81
 | succ md =>
  have hlook:z0d H (md+1,ms)=some (.lp n' f' ps asg body (z1w (md+1) st) state pend):=by
   simp only at hb;simp only[z0d,hb];rfl
  have hbr:=hr.blk (md+1,ms) _ hlook
  refine hr.change (m:=(md+1,ms)) (raw:=.lp n' f' ps asg body st state' pend') hlook rfl hE hsz (fun g hg'=>hoth g fun e=>hg' (by rw[hβ,e];rfl)) ?_
  show BR β w1 own (β (md+1,ms)) (.lp n' f' ps asg body (z1w (md+1) st) state' pend')
  exact zD81
def zvj(n':Nat)(f':FuncId)(ps:Array Tmp)(asg body:Code)(st:List (Nat × PV))(jump:Option Code):Blk:=.lp n' f' ps asg body st (if jump.isNone then .ready else .done) jump
theorem zvd{fr:Frame}(h:fr.mode=.run):fr=fr.atR { tmps:=fr.tmps,defers:=fr.defers } fr.todo:=by
 cases fr;simp at h;subst h;rfl
theorem y74{m:Nm}{H:Hf}{n':Nat}{f':FuncId}{t0:Tmp}{asg body:Code}{st:List (Nat × PV)}{arg:PV}{R2 R':zbh}{vol:Nm→Prop}{pend:Option Code}
 (hb:H m.1 m.2=some (.lp n' f' #[t0] asg body st .ready pend)) (ht0:t0<n') (hvm:¬vol m)
 (h:Run P f' ⟨R2,vol,some m⟩ [.code asg,.beginRound,.code body] ⟨n',(t0,arg.lift 1)::z1w (m.1+1) st,[],H⟩)
 (hend:∀H',R2 (.v (B true)) H'→∃st' pd,H' m.1 m.2=some (.lp n' f' #[t0] asg body st' .busy pd)∧R' (.v (B true)) (upd H' m (zvj n' f' #[t0] asg body st' none)))
 (hret:∀H',R2 (.v (B false)) H'→∃st' pd,H' m.1 m.2=some (.lp n' f' #[t0] asg body st' .busy pd)∧R' (.v (B false)) (upd H' m (zvj n' f' #[t0] asg body st' (some .ret))))
 (hexit:∀(id:Nat) H',R2 (.v (I .i64 (id:Nat))) H'→∃st' pd,H' m.1 m.2=some (.lp n' f' #[t0] asg body st' .busy pd)∧R' (.v (B false)) (upd H' m (zvj n' f' #[t0] asg body st' (some (.exit id))))) :
 zf0 P m [arg] H R' vol:=by
 intro β own w vals L0 hr hargs hβ0
 obtain⟨L,tmps,df,hβ,ho,hg,hsz,hfacts⟩:=zh8 hr hb
 obtain rfl:L0=L:=by rw[hβ]at hβ0;simpa using hβ0.symm
 obtain⟨hl,ha⟩:=hargs
 obtain⟨v,rfl⟩:∃v,vals=[v]:=by
  match vals,hl with
  | [v],_=>exact⟨v,rfl⟩
 have hav:=ha 0 arg v rfl rfl
 refine⟨f',tmps.setIfInBounds t0 v,asg,body,?_,fun c cs=>?_⟩
 ·have:=run_yield (P:=P) (args:=[v].toArray) hg (by simp)
  simpa using this
 let b:Frame:={ fn:=f',tmps:=#[],todo:=[],defers:=[],mode:=.run,kind:=.normal,roundOf:=some L0 }
 have hstart:Frame.round L0 f' (tmps.setIfInBounds t0 v) asg body .normal=am b { tmps:=tmps.setIfInBounds t0 v,defers:=[] } [.code asg,.beginRound,.code body]:=by
  simp[Frame.round,am,Frame.atR,b]
 have hrep:Rep ⟨n',(t0,arg.lift 1)::z1w (m.1+1) st,[],H⟩ (inn β) own { tmps:=tmps.setIfInBounds t0 v,defers:=[] } w:=by
  refine⟨by simpa using hsz,rfl,fun t p hp=>?_,hr.inner⟩
  simp only[look]at hp
  split at hp
  ·rename_i e;subst e
   simp at hp;subst hp
   have:(tmps.setIfInBounds t0 v).getD t0 undef=v:=by simp[Array.getD_eq_getD_getElem?,hsz,ht0]
   rw[this]
   exact PR.lift (β:=inn β) (by rw[z62];exact hav)
  ·rename_i e
   have hmem:∀ {l:List (Nat × PV)} {t:Nat} {p:PV},look l t=some p→(t,p)∈l:=by
    intro l
    induction l with
    | nil=>intro t p h;simp[look]at h
    | cons x r ih =>
     obtain⟨u,q⟩:=x
     intro t p h
     simp only[look]at h
     split at h
     ·rename_i e;subst e;simp at h;subst h;simp
     ·exact List.mem_cons_of_mem _ (ih h)
   obtain⟨q,h1,rfl⟩:=zav (hmem hp)
   have hne:(tmps.setIfInBounds t0 v).getD t undef=tmps.getD t undef:=by
    simp only[Array.getD_eq_getD_getElem?];rw[Array.getElem?_setIfInBounds_ne e]
   rw[hne]
   exact hfacts t q h1
 obtain⟨w',fr,r,H',ownm,β',h1,h2,h3,h4,h5,h6,h7,h8,v',h9,h10,h11⟩:=h (inn β) own _ w hrep b rfl rfl ⟨hvm,L0,rfl,by rw[z62];exact hβ⟩ (c::cs)
 rw[z62]at h6
 subst h10
 have hβm:β' m=.pointer (some ⟨L0,0,none⟩):=(h6 m hvm).trans hβ
 have hfr:=zvd h7
 have fin:∀(jump:Option Code) (st':List (Nat × PV)) (pd:Option Code) (vv:Bool),H' m.1 m.2=some (.lp n' f' #[t0] asg body st' .busy pd)→R' (.v (B vv)) (upd H' m (zvj n' f' #[t0] asg body st' jump))→jump.isNone=vv →
  (∀w2,(Instr.endRound L0 jump).run P w'=.ok (.bool vv) w2→step P (lone fr (c::cs) w')=.next (lone (c.finish (.bool vv)) cs w2)) →
  ∃w' v' r H' own' β',Steps P (lone (Frame.round L0 f' (tmps.setIfInBounds t0 v) asg body .normal) (c::cs) w) (lone (c.finish v') cs w')∧R' r H'∧RVR H' β' w' own' r v'∧HR H' β' own' w'∧Ext w own w' own'∧∀x,¬vol x→β' x=β x:=by
  intro jump st' pd vv hb' hR' hj hstep
  obtain⟨L',tmps',df',hβ'',ho',hg',_,_⟩:=zh8 h11 hb'
  obtain rfl:L0=L':=by rw[hβ'']at hβm;simpa using hβm.symm
  have hrun:=run_endRound (P:=P) jump hg'
  rw[hj]at hrun
  obtain⟨hE,hR2⟩:=y2d (state':=if jump.isNone then .ready else .done) (pend':=jump) h11 hb' hβ'' ho' hg'
  rw[hj]at hE hR2
  have hst:=hstep _ hrun
  refine⟨_,_,_,_,ownm,β',Steps.trans (by rw[hstart];exact h1) (.one hst),hR',.v _ _ (.d _ _ (.lit _ rfl)),?_,h5.trans hE,h6⟩
  rw[zvj,hj];exact hR2
 rcases h9 with⟨e1,rfl⟩|⟨⟨k',e1⟩,rfl⟩|⟨id,k',e1,e2,rfl⟩
 ·obtain⟨st',pd,hb',hR'⟩:=hend H' h4
  refine fin none st' pd true hb' hR' rfl fun w2 hw2=>?_
  rw[hfr,e1]
  exact stepR_round_end (b:=fr) (by rw[h8]) h3 hw2
 ·obtain⟨st',pd,hb',hR'⟩:=hret H' h4
  refine fin (some .ret) st' pd false hb' hR' rfl fun w2 hw2=>?_
  rw[hfr,e1]
  exact stepR_round_ret (b:=fr) (by rw[h8]) h3 hw2
 ·obtain⟨st',pd,hb',hR'⟩:=hexit id H' h4
  refine fin (some (.exit id)) st' pd false hb' hR' rfl fun w2 hw2=>?_
  rw[hfr,e1]
  exact stepR_round_exit (b:=fr) (by rw[h8]) h3 e2 hw2
theorem y3c{fo:Operand}{args:List Operand}{m mv:Nm}{ps:List PV}{ats:Array TypeId}{R':zbh}(hsp:zf0 P m ps (push hp up) R' fun x=>x=mv)(hfo:St.ev ⟨n,tm,hp,up⟩ fo=some (.yl m))(hev:St.evs ⟨n,tm,hp,up⟩ args=some ps)
 (hv:∀x:Nm,mv=(x.1+1,x.2)→R.vol x) (hd:d<n) (hk:∀r H,R' r H→∃p hp' up',r=.v p∧H=push hp' up'∧Ops P f R all l k ⟨n,(d,p)::z6f mv tm,hp',up'⟩) :
 Op1 P f R all ⟨some d,.call ⟨.value fo,args.toArray,ats⟩,ty,pos,aft,gd⟩ l k ⟨n,tm,hp,up⟩:=by
 intro i rest ho hrest β own a w hrep hw b hb hk' hn cs
 have hfv:=hrep.ev hfo
 generalize hvv:a.eval fo=vv at hfv
 cases hfv with
 | yl _ L hβ =>
  have hargs:=hrep.evs hev
  obtain⟨g,tmps,asg,body,hrun,hround⟩:=hsp β own w (args.map a.eval) L hrep.heap hargs hβ
  have hexec:(execOp a.eval ⟨some d,.call ⟨.value fo,args.toArray,ats⟩,ty,pos,aft,gd⟩).run P w=.ok (.round L g tmps asg body) w:=by
   simp[execOp,resolve,hvv,Deferred.ofValue,invoke]
   simpa using hrun
  obtain⟨w',v,r,H,own',β',hst,hR,hrv,hheap,hext,hβ'⟩:=hround (am b a (.inRegion all (i::rest)::k)) cs
  obtain⟨p,hp',up',rfl,rfl,hops⟩:=hk r H hR
  have hout:∀x,¬R.vol x→z5p β' x=z5p β x:=fun x hx=>hβ' _ fun e=>hx (hv x e.symm)
  have hn':za6 R (z5p β') b:=by
   exact zD98
  cases hrv with
  | v _ _ hpv =>
   have hr':Rep ⟨n,z6f mv tm,hp',up'⟩ β' own' a w':=by
    refine⟨hrep.size,hrep.defers,fun t q hq=>?_,hheap⟩
    simp only at hq
    rw[z5o]at hq
    cases hq':look tm t with
    | none=>rw[hq']at hq;cases hq
    | some q0=>rw[hq']at hq;simp at hq;subst hq;exact((hrep.tm t q0 hq').mono hext).drop hβ'
   have hr2:=hr'.put (dst:=some d) (p:=p) (v:=v) (by simp[St.fits,hd]) hpv
   have hgo:=stepGR_op (P:=P) (b:=b) (a:={ a with defers:=b.defers }) (k:=k) (cs:=cs) (w:=w) (rest:=rest) ho hw
   have hfin:∀v,(am b a (.inRegion all (i::rest)::k)).finish v=am b (a.put (some d) v) (.inRegion all rest::k):=by
    intro v;rw[z6c,ho];rfl
   have hsem:=z6g (ro:=b.roundOf) hexec (by simp)
   rw[←z8j b a]at hsem
   have henter:step P (lone (am b a (.inRegion all (i::rest)::k)) cs w)=.next (lone (Frame.round L g tmps asg body .normal) (am b a (.inRegion all (i::rest)::k)::cs) w) :=
    step_lone_go (by
     rw[show am b a (.inRegion all (i::rest)::k)=b.atR { a with defers:=b.defers } (.inRegion all (i::rest)::k)from rfl]
     rw[hgo];simp[stepG.apply,hsem,Frame.atR])
   rw[hfin]at hst
   exact(((hops rest hrest β' own' _ w' hr2 b hb hk' hn' cs).same hout).ext hext).of_steps (.head henter hst)
end Go.Ab
namespace Go.Ab
variable{P:Program}{f:FuncId}{R:z2y}{k:List Item}
variable{n:Nat}{tm:List (Nat × PV)}{hp:Hp}{up:Hf}
theorem z6n(ls ms:Nat)(st:List (Nat × PV)){g:Operand}{ps:Array Tmp}{asg body:Code}{gf:FuncId}{cap:List PV}{R':z2y}(hrnd:R.rnd=none)(hgv:St.ev ⟨n,tm,hp,up⟩ g=some (.fn (.func gf) [] cap))
 (hst:yah st tm) (hfr:(z0i ls hp&&z0p ls tm)=true) (hms:(ms == ls)=false)
 (hsp:z9f P gf (.yl (0,ls)::cap) (push ((ls,.lp n f ps asg body st .ready none)::hp) up) R') (hv:∀m,R'.vol m→m=(0,ms))
 (hk:∀r H,R'.post r H→∃state jump st' hp' up',H=push ((ls,.lp n f ps asg body st' state jump)::hp') up'∧state≠.busy∧Run P f R ((jump.map Item.code).toList++k) ⟨n,z6f (0,ms) tm,(ls,.gone)::hp',up'⟩) :
 Run P f R (.code (.rangeFunc g ps asg body)::k) ⟨n,tm,hp,up⟩:=by
 intro β own a w hrep b hb hbk hn cs
 have hb0:b.roundOf=none:=by rw[za6,hrnd]at hn;exact hn
 have hfr':=hfr
 simp only[zA7]at hfr'
 have hsub:=ybc hst
 obtain⟨L,hL⟩:∃L,w.heap.size+1=L:=⟨_,rfl⟩
 obtain⟨w0,hw0⟩:∃w0,w.alloc (.deferred (some []))=w0:=⟨_,rfl⟩
 obtain⟨lo,hlo⟩:∃lo:Loop,lo={ state:=.ready,pending:=none,fn:=f,tmps:=a.tmps,params:=ps,assign:=asg,body,defers:=w.heap.size }:=⟨_,rfl⟩
 obtain⟨w1,hw1⟩:∃w1,w0.alloc (.loop lo)=w1:=⟨_,rfl⟩
 have hs0:w0.heap.size=w.heap.size+1:=by rw[←hw0];exact World.size_alloc _ _
 have hs1:w1.heap.size=w.heap.size+2:=by rw[←hw1,World.size_alloc,hs0]
 have hoth:∀i,i<w.heap.size→w1.heap[i]? =w.heap[i]?:=fun i hi=>by
  rw[←hw1,z7t _ _ _ (by omega),←hw0,z7t _ _ _ hi]
 have hD1:w1.heap[w.heap.size]? =some (.deferred (some [])):=by
  rw[←hw1,z7t _ _ _ (by omega),←hw0];exact World.alloc_heap_new _ _
 have hL1:w1.heap[L]? =some (.loop lo):=by
  rw[←hw1,←hL,←hs0];exact World.alloc_heap_new _ _
 -- the own blocks now
 let own1:Nat→Prop:=fun g=>own g∨g=L
 have hE1:Ext w own w1 own1:=⟨by rw[←hw1,←hw0];rfl,by rw[←hw1,←hw0];rfl,by rw[←hw1,←hw0];rfl,by omega,fun i hi _=>hoth i hi,fun i hi ho h=>by
  rcases h with h|h
  ·exact ho h
  ·omega⟩
 have hrep1:Rep ⟨n,tm,(ls,.lp n f ps asg body st .ready none)::hp,up⟩ (z4b β ls (.pointer (some ⟨L,0,none⟩))) own1 a w1:=by
  refine hrep.install hfr hE1 (fun i hi=>?_) (fun m c hm hc hne i hi=>⟨hoth i (hrep.heap.lt i ((hrep.heap.blk m c hm).block_lt hc hi)),.inl ((hrep.heap.blk m c hm).block_lt hc hi),fun _ e=>?_⟩) ?_
  ·rcases hi with hi|rfl
   ·have:=hrep.heap.lt i hi;omega
   ·omega
  ·simp[z15]at e
   have:=hrep.heap.lt i ((hrep.heap.blk m c hm).block_lt hc hi)
   omega
  ·refine .lp L n f ps asg body st .ready none a.tmps w.heap.size (.inr rfl) (by rw[hL1,hlo]) hrep.size fun t p hp=>?_
   have hlook:look tm t=some p:=by
    have:∀ {l:List (Nat × PV)},Sub l tm→(t,p)∈l→look tm t=some p:=by
     intro l
     induction l with
     | nil=>intro _ h;simp at h
     | cons x r ih =>
      obtain⟨u,q⟩:=x
      intro hs h
      rw[zAc]at h
      rcases h with e|h
      ·simp at e;rw[e.1,e.2];exact hs.1
      ·exact ih hs.2 h
    exact this hsub hp
   exact((hrep.tm t p hlook).mono hE1).reβ (0,ls) (z1x β ls _) (z6a hfr'.2 hlook)
 obtain⟨β1,hβ1⟩:∃β1,z4b β ls (.pointer (some ⟨L,0,none⟩))=β1:=⟨_,rfl⟩
 rw[hβ1]at hrep1
 have hβ1L:β1 (0,ls)=.pointer (some ⟨L,0,none⟩):=by rw[←hβ1,z0w]
 have ho1:z5p β1=z5p β:=by rw[←hβ1];exact z1p _ _ _
 -- the call
 have hgr:=hrep1.ev (x:=g) hgv
 generalize hvv:a.eval g=vv at hgr
 cases hgr with
 | fn _ _ _ fv cv hl hl' hd hd' =>
  have hfv:fv=[]:=by simpa using hl.symm
  subst hfv
  obtain⟨fn,hfn,hname,hbody⟩:=hsp.plain
  have hbc:∃c,fn.body=some c:=by cases hc:fn.body with|none=>rw[hc]at hbody;cases hbody|some c=>exact⟨c,rfl⟩
  obtain⟨c,hbc⟩:=hbc
  have hname':¬(fn.name= "runtime.NumGoroutine"):=by simpa using hname
  have hargs:z6x β1 w1 own1 (.yl (0,ls)::cap) (.func (.yield L) #[] #[]::cv):=by
   refine⟨by simp[hl'],fun j p v hp hv=>?_⟩
   cases j with
   | zero=>simp at hp hv;subst hp;subst hv;exact .yl _ L hβ1L
   | succ j=>exact hd' j p v (by simpa using hp) (by simpa using hv)
  let b2:Frame:={ b with defers:=mark w.heap.size::b.defers }
  have hstep:step P (lone (am b a (.code (.rangeFunc g ps asg body)::k)) cs w)=.next (lone (Frame.enter P gf (.func (.yield L) #[] #[]::cv).toArray .normal) (am b2 a (.inRangeFunc L::k)::cs) w1):=by
   have he:(Instr.enterLoop b.fn ({ a with defers:=b.defers }:Act).tmps ps asg body b.roundOf).run P w=.ok (L,[mark w.heap.size]) w1:=by
    rw[hb0]
    have:=run_enterLoop_outer (P:=P) (w:=w) b.fn a.tmps ps asg body
    rw[hb,hw0]at this
    rw[hb,this,←hw1,hlo,hL];rfl
   have hev:({ a with defers:=b.defers }:Act).eval g=.func (.func gf) #[] cv.toArray:=by rw[zl0];simpa using hvv
   exact stepR_rangeFunc (P:=P) (b:=b) (a:={ a with defers:=b.defers }) (k:=k) (cs:=cs) (d:={ target:=.fn (.func gf) cv.toArray,args:=#[.func (.yield L) #[] #[]] }) (w₁':=w1) (w₂:=w1) he
    (by simp only[resolve,hev];simp[Deferred.ofValue,Act.eval]) (by simp[invoke,callFunc,hfn,hname',hbc])
  obtain⟨e,w2,fr,⟨v,r,H,own2,β2,rfl,hR,hrv,hheap,hext,hβ2⟩,hcomes,hfrf,hleave⟩:=hsp.run β1 own1 w1 _ hrep1.heap hargs (am b2 a (.inRangeFunc L::k)::cs)
  obtain⟨state,jump,st',hp',up',rfl,hbusy,hrun⟩:=hk r H hR
  have hne:∀x,x≠(0,ms)→β2 x=β1 x:=fun x hx=>hβ2 x fun h=>hx (hv x h)
  have hlsms:((0,ls):Nm)≠(0,ms):=by
   intro e;simp at e;simp at hms;exact hms e.symm
  have hβ2L:β2 (0,ls)=.pointer (some ⟨L,0,none⟩):=(hne _ hlsms).trans hβ1L
  have hblk:(push ((ls,.lp n f ps asg body st' state jump)::hp') up') (0,ls).1 (0,ls).2=some (.lp n f ps asg body st' state jump):=by simp[push,look]
  obtain⟨L',tmps',df',hβ',ho',hg',_,_⟩:=zh8 hheap hblk
  obtain rfl:L=L':=by rw[hβ2L]at hβ';simpa using hβ'
  have hrunE:=run_endLoop (P:=P) hg' hbusy
  obtain⟨hE2,hR2⟩:=y2d (state':=.exhausted) (pend':=jump) hheap hblk hβ' ho' hg'
  obtain⟨w3,hw3⟩:∃w3,w2.putObj L (.loop { state:=.exhausted,pending:=jump,fn:=f,tmps:=tmps',params:=ps,assign:=asg,body:=body,defers:=df' })=w3:=⟨_,rfl⟩
  rw[hw3]at hE2 hR2
  have hrunE':(Instr.endLoop L).run P w2=.ok jump w3:=by rw[hrunE,←hw3]
  -- the state behind the loop
  have hrep3:Rep ⟨n,z6f (0,ms) tm,(ls,.gone)::hp',up'⟩ β2 own2 a w3:=by
   refine⟨hrep1.size,hrep1.defers,fun t p hp=>?_,?_⟩
   ·simp only at hp
    rw[z5o]at hp
    cases hq:look tm t with
    | none=>rw[hq]at hp;cases hp
    | some q=>rw[hq]at hp;simp at hp;subst hp;exact((hrep1.tm t q hq).mono (hext.trans hE2)).drop hne
   ·have:=hR2.drop (0,ls)
    refine⟨fun m c hm=>?_,fun m1 m2 c1 c2 h1 h2 l1 l2 hn'=>?_,this.lt⟩
    ·rw[z1l]at hm
     by_cases e:m=(0,ls)
     ·rw[zAz e]at hm;simp at hm;subst hm;exact .gone _
     ·rw[zAy e]at hm
      refine this.blk m c ?_
      rw[z2k,zAy e,z2k,zAy e,z1l,zAy e];exact hm
    ·have key:∀m c,z0d (push ((ls,.gone)::hp') up') m=some c→c.live=true→z0d (upd (upd (push ((ls,.lp n f ps asg body st' state jump)::hp') up') (0,ls) (.lp n f ps asg body st' .exhausted jump)) (0,ls) .gone) m=some c:=by
      intro m c hm hc
      rw[z1l]at hm
      by_cases e:m=(0,ls)
      ·rw[zAz e]at hm;simp at hm;subst hm;cases hc
      ·rw[zAy e]at hm
       rw[z2k,zAy e,z2k,zAy e,z1l,zAy e];exact hm
     exact this.inj m1 m2 c1 c2 (key m1 c1 h1 l1) (key m2 c2 h2 l2) l1 l2 hn'
  have hob:z5p β2=z5p β:=by
   rw[←ho1];funext x;exact hne _ (by simp)
  have hn2:za6 R (z5p β2) b2:=by rw[za6,hrnd];exact hb0
  have hD2:w.heap.size<w1.heap.size∧¬own1 w.heap.size:=⟨by omega,fun h=>by
   rcases h with h|h
   ·have:=hrep.heap.lt _ h;omega
   ·omega⟩
  obtain⟨w',fr',r',H',ownm,β',h1,h2,h3,h4,h5,h6,h7⟩:=hrun β2 own2 a w3 hrep3 b2 hb hbk hn2 cs
  rw[hob]at h6
  rw[hrnd]at h7
  obtain⟨a1,⟨Ds,a2,a3,a4⟩,a5⟩:=h7
  have hext3:=hext.trans hE2
  have hD3:w3.heap[w.heap.size]? =some (.deferred (some [])):=by rw[hext3.block _ hD2.1 hD2.2];exact hD1
  have hD4:w'.heap[w.heap.size]? =some (.deferred (some [])):=by
   rw[h5.block _ (zAx hD2.1 hext3.size) (hext3.owns _ hD2.1 hD2.2)];exact hD3
  have hsteps:Steps P (lone (am b a (.code (.rangeFunc g ps asg body)::k)) cs w) (lone (am b2 a ((jump.map Item.code).toList++k)) cs w3):=by
   refine .head hstep (Steps.trans hcomes (.head (step_leave_returned hleave) (.one ?_)))
   rw[am,finish_atR_inRangeFunc]
   exact stepR_endRangeFunc hrunE'
  refine⟨w',fr',r',H',ownm,β',Steps.trans hsteps h1,h2,h3,h4,(hE1.trans hext3).trans h5,h6,?_⟩
  rw[hrnd]
  refine⟨a1,⟨Ds++[w.heap.size],by rw[a2];simp[b2],?_,fun D hD=>?_⟩,a5⟩
  ·rw[List.nodup_append]
   refine⟨a3,by simp,fun x hx y hy=>?_⟩
   simp at hy;subst hy
   have:=(a4 x hx).1
   have h3s:w1.heap.size≤w3.heap.size:=hext3.size
   omega
  ·rw[zAt,zAq]at hD
   rcases hD with hD|rfl
   ·exact⟨by have:=(a4 D hD).1;have h3s:w1.heap.size≤w3.heap.size:=hext3.size;omega,(a4 D hD).2⟩
   ·exact⟨zAj _,hD4⟩
end Go.Ab
namespace Go.Ab
variable{P:Program}{f:FuncId}{R:z2y}{k:List Item}{all:Array Oper}{o:Oper}{l:List Oper}
variable{n:Nat}{tm:List (Nat × PV)}{hp:Hp}{up:Hf}{d:Nat}{ty:TypeId}{pos:String}{aft:Array Edge}{gd:Option (Nat × Bool)}{op:Op}{p:PV}
theorem zkn{m:Nm}:∀ {tm:List (Nat × PV)},z2f m tm=false→z6f m tm=tm
 | [],_=>rfl
 | (t,p)::r,h=>by
  simp only[z2f,Bool.or_eq_false_iff]at h
  rw[z6f,h.1,zkn h.2];rfl
theorem bkN{e t:Nat}{b:Blk}(h:up e t=some b):BkE ⟨n,tm,hp,up⟩ [((e+1,t),b)]:=by
 simp only[BkE,List.map_cons,List.map_nil,List.cons.injEq,and_true];exact h
theorem zh5{fo:Operand}{args:List Operand}{m mv:Nm}{ps:List PV}{ats:Array TypeId}{up':Hf}(hsp:zf0 P m ps (push hp up) (fun r H'=>r=.v p∧H'=push hp up') fun x=>x=(mv.1+1,mv.2))(hfo:St.ev ⟨n,tm,hp,up⟩ fo=some (.yl m))(hev:St.evs ⟨n,tm,hp,up⟩ args=some ps)
 (hq:z2f (mv.1+1,mv.2) tm=false) (hv:R.vol mv) (hd:d<n) (h:Ops P f R all l k ⟨n,(d,p)::tm,hp,up'⟩) :
 Op1 P f R all ⟨some d,.call ⟨.value fo,args.toArray,ats⟩,ty,pos,aft,gd⟩ l k ⟨n,tm,hp,up⟩:=by
 refine y3c hsp hfo hev (fun x e=>?_) hd fun r H hr=>?_
 ·have e1:=congrArg Prod.fst e
  have e2:=congrArg Prod.snd e
  have:x=mv:=Prod.ext (by simp at e1;omega) e2.symm
  rw[this];exact hv
 ·obtain⟨rfl,rfl⟩:=hr
  rw[zkn hq]
  exact⟨p,hp,up',rfl,rfl,h⟩
end Go.Ab
namespace Go.Ab
variable{P:Program}{f:FuncId}{R:z2y}{k:List Item}{all:Array Oper}{o:Oper}{l:List Oper}
variable{n:Nat}{tm:List (Nat × PV)}{hp:Hp}{up:Hf}{d:Nat}{ty:TypeId}{pos:String}{aft:Array Edge}{gd:Option (Nat × Bool)}{op:Op}{p:PV}
def PV.give1(y:Nat)(m:Nm):PV→PV
 | .ptr q off=>if q == (0,y)then .ptr m off else .ptr q off
 | p=>p
def PV.giveF(y:Nat)(m:Nm):PV→PV
 | .fn g first cap=>.fn g (first.map (PV.give1 y m)) (cap.map (PV.give1 y m))
 | p=>p.give1 y m
def zk1(y:Nat)(m:Nm):List (Nat × PV)→List (Nat × PV)
 | []=>[]
 | (t,p)::r=>(t,if p.says m then .any else p.giveF y m)::zk1 y m r
theorem zd1{m:Nm}{y:Nat}:∀ {tm:List (Nat × PV)} {t:Nat},look (zk1 y m tm) t=(look tm t).map fun p=>if p.says m then .any else p.giveF y m
 | [],t=>rfl
 | (k,p)::r,t=>by
  simp only[zk1,look]
  split
  ·rfl
  ·exact zd1
theorem PR.give1{β:Nm→Value}{w:World}{own:Nat→Prop}{m:Nm}{y:Nat}(hm:β m=β (0,y)){p:PV}{v:Value}(h:PR β w own p v):PR β w own (p.give1 y m) v:=by
 cases p with
 | ptr q off =>
  simp only[PV.give1]
  split
  ·rename_i e;simp at e;subst e
   cases h with|ptr _ _ g hg=>exact .ptr _ _ g (by rw[hm];exact hg)
  ·exact h
 | _=>exact h
theorem PR.giveF{β:Nm→Value}{w:World}{own:Nat→Prop}{m:Nm}{y:Nat}(hm:β m=β (0,y)){p:PV}{v:Value}(h:PR β w own p v):PR β w own (p.giveF y m) v:=by
 cases p with
 | fn g first cap =>
  cases h with
  | fn _ _ _ fv cv h1 h2 h3 h4 =>
   refine .fn g _ _ fv cv (by simpa using h1) (by simpa using h2) (fun j x u hx hu=>?_) fun j x u hx hu=>?_
   ·rw[zAd]at hx
    cases hj:first[j]? with
    | none=>rw[hj]at hx;simp at hx
    | some z=>rw[hj]at hx;simp at hx;subst hx;exact(h3 j z u hj hu).give1 hm
   ·rw[zAd]at hx
    cases hj:cap[j]? with
    | none=>rw[hj]at hx;simp at hx
    | some z=>rw[hj]at hx;simp at hx;subst hx;exact(h4 j z u hj hu).give1 hm
 | _=>exact h.give1 hm
theorem y4n(y md ms:Nat){cs:List PV}{q:Blk}(hb:look hp y=some (.box cs))(hq0:q.lift (md+1)=.box cs)(hg:up md ms=some .gone)(hvol:R.vol (md,ms))(hq:z2m (md+1,ms) hp=true)(hup:z73 up (md,ms))
 (h:Run P f R k ⟨n,zk1 y (md+1,ms) tm,(y,.gone)::hp,upd up (md,ms) q⟩):Run P f R k ⟨n,tm,hp,up⟩:=by
 refine Run.stepV (s:=⟨n,tm,hp,up⟩) (s':=⟨n,zk1 y (md+1,ms) tm,(y,.gone)::hp,upd up (md,ms) q⟩) (fun β own a w hr b' fs=>?_) h
 let β':Nm→Value:=fun m=>if m=(md+1,ms)then β (0,y)else β m
 have hne:∀m,m≠(md+1,ms)→β' m=β m:=fun m hm=>by simp[β',hm]
 have hsame:β' (md+1,ms)=β' (0,y):=by simp[β']
 have hy:β' (0,y)=β (0,y):=hne _ (by simp)
 have hold:∀m c,z0d (push hp up) m=some c→c.says (md+1,ms)=false:=fun m c hc=>zdg (zfo (m:=(md,ms)) hq hup) hc
 have hgone:z0d (push hp up) (md+1,ms)=some .gone:=by simp[z0d,push,hg,Blk.lift]
 have h1:HR (push hp up) β' own w:=by
  exact zD31
 refine⟨β',own,a,w,⟨hr.size,hr.defers,fun t p hp'=>?_,?_⟩,Ext.refl _ _,fun m hm=>?_,.refl _ _⟩
 ·simp only at hp'
  rw[zd1]at hp'
  cases hq':look tm t with
  | none=>rw[hq']at hp';cases hp'
  | some q1 =>
   rw[hq']at hp';simp at hp';subst hp'
   split
   ·exact .any _
   ·rename_i hs
    exact((hr.tm t q1 hq').reβ (md+1,ms) hne (by simpa using hs)).giveF hsame
 ·have hrow:z0d (push hp up) (0,y)=some (.box cs):=hb
  have key:∀m c,z0d (push ((y,.gone)::hp) (upd up (md,ms) q)) m=some c→c.live=true→(m=(md+1,ms)∧c=.box cs)∨(m≠(md+1,ms)∧m≠(0,y)∧z0d (push hp up) m=some c):=by
   intro m c hm hc
   rw[z1l]at hm
   by_cases e1:m=(0,y)
   ·rw[zAz e1]at hm;simp at hm;subst hm;cases hc
   ·rw[zAy e1,z5a,z2k]at hm
    by_cases e2:m=(md+1,ms)
    ·rw[zAz e2]at hm;simp[atF]at hm;rw[hq0]at hm;exact .inl ⟨e2,hm.symm⟩
    ·rw[zAy e2]at hm;exact .inr ⟨e2,e1,hm⟩
  refine⟨fun m c hm=>?_,fun m1 m2 c1 c2 e1 e2 l1 l2 hn g hg'=>?_,h1.lt⟩
  ·cases hc:c.live with
   | false=>cases c <;> first|(simp[Blk.live]at hc;done)|exact .gone _
   | true =>
    rcases key m c hm hc with⟨rfl,rfl⟩|⟨_,_,h3⟩
    ·rw[hsame];exact h1.blk _ _ hrow
    ·exact h1.blk m c h3
  ·rcases key m1 c1 e1 l1 with⟨rfl,rfl⟩|⟨n1,n1',h3⟩
   ·rcases key m2 c2 e2 l2 with⟨rfl,rfl⟩|⟨n2,n2',h4⟩
    ·exact absurd rfl hn
    ·rw[hsame]at hg'
     exact h1.inj (0,y) m2 _ c2 hrow h4 l1 l2 (Ne.symm n2') g hg'
   ·rcases key m2 c2 e2 l2 with⟨rfl,rfl⟩|⟨n2,n2',h4⟩
    ·rw[hsame]
     exact h1.inj m1 (0,y) c1 _ h3 hrow l1 l2 n1' g hg'
    ·exact h1.inj m1 m2 c1 c2 h3 h4 l1 l2 hn g hg'
 ·refine hne _ fun e=>hm ?_
  have e1:m.1+1=md+1:=(Prod.mk.inj e).1
  have e2:m.2=ms:=(Prod.mk.inj e).2
  have:m=(md,ms):=Prod.ext (by omega) e2
  subst this
  exact hvol
theorem y7h{fn:Func}{s:St}{t:Nat}(q:PV)(h:fn.results=#[.tmp t])(ht:look s.tm t=some (q.lift 1)):Res P fn s (.v q):=fun β own a w hrep =>
 ⟨a.tmps.getD t undef,own,by simp[results,h],Ext.refl _ _,hrep.heap.outer,.v _ _ ((hrep.tm t _ ht).low q rfl)⟩
theorem zcy(y:Nat)(h:Run P f R k ⟨n,tm,(y,.gone)::hp,up⟩):Run P f R k ⟨n,tm,hp,up⟩:=by
 refine Run.le (s:=⟨n,tm,(y,.gone)::hp,up⟩) (fun β own ac w hr=>⟨β,rfl,hr.size,hr.defers,hr.tm,?_⟩) h
 have:=hr.heap.drop (0,y)
 refine⟨fun m c hm=>?_,fun m1 m2 c1 c2 h1 h2 l1 l2 hn'=>?_,this.lt⟩
 ·rw[z1l]at hm
  by_cases e:m=(0,y)
  ·rw[zAz e]at hm;simp at hm;subst hm;exact .gone _
  ·rw[zAy e]at hm;exact hr.heap.blk m c hm
 ·have key:∀m c,z0d (push ((y,.gone)::hp) up) m=some c→c.live=true→z0d (push hp up) m=some c:=by
   intro m c hm hc
   rw[z1l]at hm
   by_cases e:m=(0,y)
   ·rw[zAz e]at hm;simp at hm;subst hm;cases hc
   ·rw[zAy e]at hm;exact hm
  exact hr.heap.inj m1 m2 c1 c2 (key m1 c1 h1 l1) (key m2 c2 h2 l2) l1 l2 hn'
theorem zb2{m:Nm}:∀ {tm:List (Nat × PV)} {t:Nat} {q:PV},z2f m tm=false→look tm t=some q→q.says m=false
 | [],t,q,_,h=>by simp[look]at h
 | (k,p)::r,t,q,hs,h=>by
  simp only[z2f,Bool.or_eq_false_iff]at hs
  simp only[look]at h
  split at h
  ·simp at h;subst h;exact hs.1
  ·exact zb2 hs.2 h
theorem zia{g:FuncId}{args:List Operand}{ps:List PV}{ats:Array TypeId}{a b:Nat}{hp':Hp}{up':Hf}(hsp:z9f P g ps (push hp up) ⟨fun r H'=>r=.v p∧H'=push hp' up',fun x=>x=(0,a)∨x=(0,b),none⟩)(hev:St.evs ⟨n,tm,hp,up⟩ args=some ps)
 (hqa:z2f (0,a) tm=false) (hqb:z2f (0,b) tm=false) (hd:d<n) (h:Ops P f R all l k ⟨n,(d,p)::tm,hp',up'⟩) :
 Op1 P f R all ⟨some d,.call ⟨.value (.func g),args.toArray,ats⟩,ty,pos,aft,gd⟩ l k ⟨n,tm,hp,up⟩:=by
 refine zos (g:=g) fun β own ac w hr=>?_
 obtain⟨vals,hrun,hargs⟩:=z6m (first:=[]) (cap:=[]) hr (fo:=.func g) rfl hev hsp.plain (dst:=some d) (ats:=ats) (ty:=ty) (pos:=pos) (aft:=aft) (gd:=gd)
 refine⟨vals.toArray,w,own,hrun,Ext.refl _ _,(hsp.run β own w vals hr.heap (by simpa using hargs)).mono fun e w' hfin=>?_⟩
 obtain⟨v,r,H,own',β',he,⟨hr1,hH⟩,hrv,hheap,hext,hβ⟩:=hfin
 subst hr1
 cases hrv with
 | v _ _ hpv =>
  refine⟨v,β',own',_,he,?_,hext,fun x hx=>hβ _ fun e=>?_,h⟩
  ·have hr':Rep ⟨n,tm,hp',up'⟩ β' own' ac w':=by
    refine⟨hr.size,hr.defers,fun t q hq'=>?_,by rw[←hH];exact hheap⟩
    simp only at hq'
    let β1:Nm→Value:=fun x=>if x=(0,a)then β' (0,a)else β x
    have h1:=((hr.tm t q hq').mono hext).reβ (β':=β1) (0,a) (fun m hm=>by simp[β1,hm]) (zb2 hqa hq')
    refine h1.reβ (β':=β') (0,b) (fun m hm=>?_) (zb2 hqb hq')
    by_cases e:m=(0,a)
    ·subst e;simp[β1]
    ·simp only[β1,e,if_false]
     exact hβ m fun hv=>hv.elim e hm
   exact hr'.put (dst:=some d) (p:=p) (v:=v) (by simp[St.fits,hd]) hpv
  ·rcases e with e|e <;> simp at e
end Go.Ab
namespace Go.Ab
variable{P:Program}{f:FuncId}{R:z2y}{k:List Item}{all:Array Oper}{o:Oper}{l:List Oper}
variable{n:Nat}{tm:List (Nat × PV)}{hp:Hp}{up:Hf}{d:Nat}{ty:TypeId}{pos:String}{aft:Array Edge}{gd:Option (Nat × Bool)}{op:Op}{p:PV}
theorem y3f{g:FuncId}{fo:Operand}{args:List Operand}(first cap ps:List PV){ats:Array TypeId}(hsp:Spec P g (first++ps++cap) (push hp up) fun r H'=>r=.v p∧H'=push hp up)(hfo:St.ev ⟨n,tm,hp,up⟩ fo=some (.fn (.func g) first cap))(hev:St.evs ⟨n,tm,hp,up⟩ args=some ps)
 (hd:d<n) (h:Ops P f R all l k ⟨n,(d,p)::tm,hp,up⟩) :
 Op1 P f R all ⟨some d,.call ⟨.value fo,args.toArray,ats⟩,ty,pos,aft,gd⟩ l k ⟨n,tm,hp,up⟩:=by
 refine zos (g:=g) fun β own ac w hr=>?_
 obtain⟨vals,hrun,hargs⟩:=z6m hr hfo hev hsp.plain (dst:=some d) (ats:=ats) (ty:=ty) (pos:=pos) (aft:=aft) (gd:=gd)
 refine⟨vals.toArray,w,own,hrun,Ext.refl _ _,(hsp.run β own w vals hr.heap hargs).mono fun e w' hfin=>?_⟩
 obtain⟨v,r,H,own',he,⟨hr1,hH⟩,hrv,hheap,hext⟩:=hfin
 subst hr1
 cases hrv with
 | v _ _ hpv =>
  refine⟨v,β,own',_,he,?_,hext,fun x hx=>rfl,h⟩
  have hr':Rep ⟨n,tm,hp,up⟩ β own' ac w':=⟨hr.size,hr.defers,fun t q hq'=>(hr.tm t q hq').mono hext,by rw[←hH];exact hheap⟩
  exact hr'.put (dst:=some d) (p:=p) (v:=v) (by simp[St.fits,hd]) hpv
theorem z8b{H:Hf}{a b:Nm}{p q:Blk}(h:a≠b):upd (upd H a p) b q=upd (upd H b q) a p:=by
 funext d s
 simp only[upd]
 by_cases h1:d=b.1∧s=b.2
 ·rw[zAz h1,zAz h1,zAy fun h2=>h (Prod.ext (h2.1.symm.trans h1.1) (h2.2.symm.trans h1.2))]
 ·rw[zAy h1,zAy h1]
end Go.Ab
namespace Go.Ab
variable{P:Program}{ty tx ty':TypeId}{x y z:Operand}
theorem z0n.ptr{t:TypeId}{ti:TI}(h:z0n P t ti){e:TypeId}(hk:ti.kind=.ptr e):P.underlying t=some (.pointer (P.pointee t)):=by
 have h0:P.underlying t=some (.pointer e):=by
  exact zD51
 have:P.pointee t=e:=by simp[Program.pointee,h0]
 rw[this];exact h0
abbrev zwh:Value:=.pointer none
theorem ycg{e o:TypeId}{m:Nm}{ti:TI}[ht:z0n P tx ti](hk:ti.kind=.ptr e):Val P (.binOp .eql tx x y ty') ty [(x,.ptr m o),(y,.d (.lit zwh))] [] (B false):=fun d pos aft gd n tm hp up hd hx _ =>
 z0k rfl hd fun β own ac w hrp=>by
  have h1:=hrp.ev hx.1
  have h2:=(hrp.ev hx.2.1).lit
  generalize hv:ac.eval x=v at h1
  cases h1 with
  | ptr _ _ g hg =>
   refine⟨.bool false,?_,PR.B _⟩
   simp only[execOp,h2,hv]
   rw[Sem.run_bind]
   have:(eqGuard .eql tx x y (.pointer (some ⟨g,o,none⟩)) zwh).run P w=.ok () w:=by simp[eqGuard,zwh]
   have key:(binOp .eql tx (.pointer (some ⟨g,o,none⟩)) zwh).run P w=_:=run_eql_pointer_nil w tx (some ⟨g,o,none⟩) (ht.ptr hk)
   simp only[Sem.run_bind,this]
   show(Sem.run P (binOp .eql tx (.pointer (some ⟨g,o,none⟩)) zwh) w).andThen _=_
   rw[key];rfl
theorem ycl{e o:TypeId}{m:Nm}{ti:TI}[ht:z0n P tx ti](hk:ti.kind=.ptr e):Val P (.binOp .neq tx x y ty') ty [(x,.ptr m o),(y,.d (.lit zwh))] [] (B true):=fun d pos aft gd n tm hp up hd hx _ =>
 z0k rfl hd fun β own ac w hrp=>by
  have h1:=hrp.ev hx.1
  have h2:=(hrp.ev hx.2.1).lit
  generalize hv:ac.eval x=v at h1
  cases h1 with
  | ptr _ _ g hg =>
   refine⟨.bool true,?_,PR.B _⟩
   simp only[execOp,h2,hv]
   rw[Sem.run_bind]
   have:(eqGuard .neq tx x y (.pointer (some ⟨g,o,none⟩)) zwh).run P w=.ok () w:=by simp[eqGuard,zwh]
   have key:(binOp .neq tx (.pointer (some ⟨g,o,none⟩)) zwh).run P w=_:=run_neq_pointer_nil w tx (some ⟨g,o,none⟩) (ht.ptr hk)
   simp only[Sem.run_bind,this]
   show(Sem.run P (binOp .neq tx (.pointer (some ⟨g,o,none⟩)) zwh) w).andThen _=_
   rw[key];rfl
end Go.Ab
namespace Go.Ab
variable{P:Program}{f:FuncId}{R:z2y}{k:List Item}{all:Array Oper}{o:Oper}{l:List Oper}
variable{n:Nat}{tm:List (Nat × PV)}{hp:Hp}{up:Hf}{d:Nat}
section
variable{ty:TypeId}{pos:String}{aft:Array Edge}{gd:Option (Nat × Bool)}{p:PV}{g:FuncId}{args:List Operand}{ps:List PV}{ats:Array TypeId}{bs:List (Nm × Blk)}
theorem z8x(hsp:z0u P g ps bs [] p)(hev:St.evs ⟨n,tm,hp,up⟩ args=some ps)(hbs:BkE ⟨n,tm,hp,up⟩ bs)(hd:d<n)(h:Ops P f R all l k ⟨n,(d,p)::tm,hp,up⟩) :
 Op1 P f R all ⟨some d,.call ⟨.value (.func g),args.toArray,ats⟩,ty,pos,aft,gd⟩ l k ⟨n,tm,hp,up⟩:=zju hsp hev hbs hd rfl h
theorem z3x(hsp:z0u P g ps bs [] p)(hbs:BkE ⟨n,tm,hp,up⟩ bs)(h:Ops P f R all l k ⟨n,(d,p)::tm,hp,up⟩)(hev:St.evs ⟨n,tm,hp,up⟩ args=some ps:=by exact rfl)(hd:d<n:=by decide):Op1 P f R all ⟨some d,.call ⟨.value (.func g),args.toArray,ats⟩,ty,pos,aft,gd⟩ l k ⟨n,tm,hp,up⟩:=z8x hsp hev hbs hd h
theorem z6s(hsp:z0u P g ps bs [] p)(h:Ops P f R all l k ⟨n,(d,p)::tm,hp,up⟩)(hev:St.evs ⟨n,tm,hp,up⟩ args=some ps:=by exact rfl)(hbs:BkE ⟨n,tm,hp,up⟩ bs:=by exact rfl)(hd:d<n:=by decide):Op1 P f R all ⟨some d,.call ⟨.value (.func g),args.toArray,ats⟩,ty,pos,aft,gd⟩ l k ⟨n,tm,hp,up⟩:=z8x hsp hev hbs hd h
theorem za0{id:Nat}{ops:List Oper}{s0:St}{done:List Eff}{gr:List (Nat × PV)}(hsp:z0u P g ps bs [] p)(hg:GOK ops.toArray gd gr ⟨n,tm,hp,up⟩)
 (hev:St.evs ⟨n,tm,hp,up⟩ args=some ps) (hbs:BkE ⟨n,tm,hp,up⟩ bs) (hd:d<n)
 (h:Tr P f R id ops k s0 (done++[⟨gr++rd (args.zip ps),bs,[],[(d,p)],[]⟩]) ⟨n,(d,p)::tm,hp,up⟩ l) :
 Tr P f R id ops k s0 done ⟨n,tm,hp,up⟩ (⟨some d,.call ⟨.value (.func g),args.toArray,ats⟩,ty,pos,aft,gd⟩::l):=zrr hsp hg hev hbs hd rfl h
end
end Go.Ab
namespace Go.Ab
variable{P:Program}{f:FuncId}{R:z2y}{k:List Item}{all:Array Oper}{o:Oper}{l:List Oper}
variable{n:Nat}{tm:List (Nat × PV)}{hp:Hp}{up:Hf}{d:Nat}{ty:TypeId}{pos:String}{aft:Array Edge}{gd:Option (Nat × Bool)}{op:Op}{p:PV}
theorem zqp{s:St}{t e:TypeId}{ti te:TI}(ht:z0n P t ti)(he:z0n P e te)(hk:ti.kind=.slice e){x y:Operand}{k1 k2:IntKind}{a c:Int}(hx:s.ev x=some (I k1 a))(hy:s.ev y=some (I k2 c))(h0:0≤a)(hac:a≤c)(ha:c≤137438953472)(hb:te.bytes≤1024)(hz:te.zero.all (·.oneCell')=true)
 (hz1:te.zero.length=te.size) (hz2:te.size≠0) (hf:(z0i d s.hp&&z0p d s.tm)=true) (hd:d<s.n) :
 z0y P ⟨some d,.makeSlice t x y,ty,pos,aft,gd⟩ s (s.app ⟨[],[],[],[(d,.ref (0,d))],[((0,d),.row e te.size (List.replicate a.toNat (te.zero.map zf6)))]⟩):=by
 obtain⟨n,tm,hp,up⟩:=s
 intro β own ac w hr
 obtain⟨i,u,z,hi,hu,hiz,his,hib,hku,hzc,_⟩:=he.get
 have hsm:=z4p (b:=te.bytes) (c:=c.toNat) hb (by omega)
 have hby:(i.bytes:Int)*c≤281474976710656:=by
  have h1:(te.bytes:Int)*c=((c.toNat*te.bytes:Nat):Int):=by rw[Int.natCast_mul,Int.toNat_of_nonneg (by omega),Int.mul_comm]
  rw[hib,h1];omega
 have hrun:=run_make (P:=P) w t e i z (ht.slice hk) hi hiz k1 k2 a c h0 hac hby (by omega)
 have hE:=Ext.alloc w own (.cells (madeCells z.cells (c.toNat*i.size)) e)
 have hzsz:z.cells.size=te.size:=by rw[←hz1,←hzc];simp
 have hget:∀i' j,i'<c.toNat→j<te.size→(madeCells z.cells (c.toNat*i.size)).toList[i'*te.size+j]? =te.zero[j]?:=by
  intro i' j hi' hj
  have hlt:i'*te.size+j<c.toNat*te.size:=by
   have:(i'+1)*te.size≤c.toNat*te.size:=Nat.mul_le_mul_right _ hi'
   rw[Nat.add_mul]at this;omega
  exact zD21
 have hlen:(madeCells z.cells (c.toNat*i.size)).toList.length=c.toNat*te.size:=by simp[size_madeCells,his]
 have hle:a.toNat≤c.toNat:=by omega
 have hmul:a.toNat*te.size≤c.toNat*te.size:=Nat.mul_le_mul_right _ hle
 have hlent:((madeCells z.cells (c.toNat*i.size)).toList.take (a.toNat*te.size)).length=a.toNat*te.size:=by rw[zAm,hlen];omega
 have hgett:∀i' j,i'<a.toNat→j<te.size→((madeCells z.cells (c.toNat*i.size)).toList.take (a.toNat*te.size))[i'*te.size+j]? =te.zero[j]?:=by
  intro i' j hi' hj
  have hlt:i'*te.size+j<a.toNat*te.size:=by
   have:(i'+1)*te.size≤a.toNat*te.size:=Nat.mul_le_mul_right _ hi'
   rw[Nat.add_mul]at this;omega
  rw[List.getElem?_take,zAz hlt]
  exact hget i' j (by omega) hj
 have hrow:z96 (w.alloc (.cells (madeCells z.cells (c.toNat*i.size)) e)) (fun g=>own g∨g=w.heap.size) te.size (List.replicate a.toNat (te.zero.map zf6)) ((madeCells z.cells (c.toNat*i.size)).toList.take (a.toNat*te.size)):=by
  refine⟨fun x hx=>?_,by rw[zAr];exact hlent,fun v hv=>?_,fun i' x hx' j y hy'=>?_⟩
  ·rw[List.mem_replicate]at hx;rw[hx.2];simp[hz1]
  ·obtain⟨j,hj⟩:=zAw hv
   have hjl:=(zA1.1 hj).1
   rw[hlent]at hjl
   have h2:=hgett (j / te.size) (j % te.size) ((Nat.div_lt_iff_lt_mul (by omega)).2 hjl) (Nat.mod_lt _ (by omega))
   rw[Nat.div_add_mod' j te.size,hj]at h2
   rw[List.all_eq_true]at hz
   exact hz v (zA2 h2.symm)
  ·have hi'':=(zA1.1 hx').1
   rw[zAr]at hi''
   rw[List.getElem?_replicate,zAz hi'']at hx'
   simp at hx';subst hx'
   rw[zAd]at hy'
   cases hq:te.zero[j]? with
   | none=>rw[hq]at hy';cases hy'
   | some u =>
    rw[hq]at hy';simp at hy';subst hy'
    refine⟨u,by rw[hgett i' j hi'' (by have:=(zA1.1 hq).1;omega)];exact hq,?_⟩
    rw[List.all_eq_true]at hz
    exact .zf6 (hz u (zA2 hq))
 have hin:=hr.install (d:=d) hf hE (fun g hg=>by rcases hg with hg|rfl;exact zAx (hr.heap.lt g hg) (by simp);simp) (v:=.slice (some ⟨w.heap.size,0,none⟩) a.toNat c.toNat) (b:=.row e te.size (List.replicate a.toNat (te.zero.map zf6)))
  (z3v hr.heap _ _ _ rfl)
  (.row _ e te.size _ _ (fun g hg=>by simp[Value.ownBlock]at hg;exact .inr hg.symm) (by omega)
    ⟨by rw[zAr];exact hlent,.inr ⟨w.heap.size,c.toNat,_,by rw[zAr],zAf _,z43 w _,by rw[zAr];exact hle,by unfold maxLen;omega,hlen,by rw[zAr]⟩⟩ hrow)
 refine⟨_,.slice (some ⟨w.heap.size,0,none⟩) a.toNat c.toNat,_,z4b β d (.slice (some ⟨w.heap.size,0,none⟩) a.toNat c.toNat),_,?_,.inl rfl,?_,hE,z1p _ _ _⟩
 ·simp only[execOp,(hr.ev hx).lit,(hr.ev hy).lit]
  simp[hrun]
 ·have hp':=PR.ref (β:=z4b β d (.slice (some ⟨w.heap.size,0,none⟩) a.toNat c.toNat)) (w:=w.alloc (.cells (madeCells z.cells (c.toNat*i.size)) e)) (own:=fun g=>own g∨g=w.heap.size) (0,d)
  rw[z0w]at hp'
  exact hin.put (dst:=some d) (p:=.ref (0,d)) (by simpa[St.fits]using hd) hp'
section
variable{t e:TypeId}{ti te:TI}{x y:Operand}{k1 k2:IntKind}{a c:Int}{xs:List (List D)}
theorem ztl [ht:z0n P t ti][he:z0n P e te](hk:ti.kind=.slice e)(hev:St.evs ⟨n,tm,hp,up⟩ [x,y]=some [I k1 a,I k2 c])(h0:0≤a)(hac:a≤c)(ha:c≤137438953472)(hb:decide (te.bytes≤1024)=true)(hz:ze7 te 0=true)(hfr:(z0i d hp&&z0p d tm)=true)(hd:d<n)
 (hxs:List.replicate a.toNat (te.zero.map zf6)=xs) (h:Ops P f R all l k ⟨n,(d,.ref (0,d))::tm,(d,.row e te.size xs)::hp,up⟩):Op1 P f R all ⟨some d,.makeSlice t x y,ty,pos,aft,gd⟩ l k ⟨n,tm,hp,up⟩:=by
 obtain⟨h1,h2,_⟩:=evE (xs:=[(x,I k1 a),(y,I k2 c)]) hev
 simp only[ze7,zA7,beq_iff_eq,bne_iff_ne]at hz
 subst hxs
 exact z09 (zqp (P:=P) (d:=d) ht he hk (s:=⟨n,tm,hp,up⟩) h1 h2 h0 hac ha (by simpa using hb) hz.1.1.1 hz.1.1.2 hz.1.2 hfr hd) h
end
end Go.Ab
namespace Go.Ab
variable{P:Program}{f:FuncId}{R:z2y}{k:List Item}{all:Array Oper}{o:Oper}{l:List Oper}
variable{n:Nat}{tm:List (Nat × PV)}{hp:Hp}{up:Hf}{d:Nat}{ty:TypeId}{pos:String}{aft:Array Edge}{gd:Option (Nat × Bool)}{op:Op}{p:PV}
theorem zw7{β:Nm→Value}{own:Nat→Prop}{a:Act}{w:World}{ms tx e' kk:Nat}{ys:List (List D)}(hr:Rep ⟨n,tm,hp,up⟩ β own a w)(hb:look hp ms=some (.row e' kk ys))(hx:look tm tx=some (.ref (0,ms))) :
 Rep ⟨n,(tx,.rsub (0,ms) kk 0 ys.length)::tm,hp,up⟩ β own a w:=by
 refine⟨hr.size,hr.defers,fun t q hq=>?_,hr.heap⟩
 simp only[look]at hq
 split at hq
 ·rename_i e
  subst e
  simp at hq;subst hq
  have h1:=hr.tm tx _ hx
  obtain⟨ad,cap,hv,hc⟩:=hr.rowv (m:=(0,ms)) (show z3h ⟨n,tm,hp,up⟩ (0,ms)=some (.row e' kk ys)from hb)
  generalize a.tmps.getD tx undef=v at h1
  cases h1 with
  | ref _ =>
   rw[hv]
   have:=PR.rsub (β:=β) (w:=w) (own:=own) (0,ms) kk 0 ys.length ys.length cap ad hv (by omega) hc
   have e2:(if cap=0 then ad else ad.map (·.add (0*kk)))=ad:=by
    exact zD144
   rw[e2]at this
   simpa using this
 ·exact hr.tm t q hq
theorem zuh{tx:Nat}{y:Operand}{t e:TypeId}{ti te:TI}[ht:z0n P t ti][he:z0n P e te]{ms e' kk:Nat}{ys zs:List (List D)}(hk:ti.kind=.slice e)(hev:St.evs ⟨n,tm,hp,up⟩ [.tmp tx,y]=some [.ref (0,ms),.d (.slice zs)])(hb:look hp ms=some (.row e' kk ys))(hkk:te.size=kk)(hd:d<n)
 (hy2:St.ev ⟨n,(tx,.rsub (0,ms) kk 0 ys.length)::tm,hp,up⟩ y=some (.d (.slice zs))) (hlen:ys.length=zs.length) (hz:∀y∈zs,y.length=kk) (h:Ops P f R all l k ⟨n,(d,I .i64 zs.length)::(tx,.rsub (0,ms) kk 0 ys.length)::tm,(ms,.row e' kk zs)::hp,up⟩) :
 Op1 P f R all ⟨some d,.call ⟨.builtin .copy,#[.tmp tx,y],#[t,t]⟩,ty,pos,aft,gd⟩ l k ⟨n,tm,hp,up⟩:=by
 obtain⟨hx,hy,_⟩:=evE (xs:=[(.tmp tx,.ref (0,ms)),(y,.d (.slice zs))]) hev
 have hx':look tm tx=some (.ref (0,ms)):=hx
 have hsp:z0g ys 0 zs=zs:=zfz ys zs hlen.symm
 intro i rest ho hrest β own a w hrep
 refine(z09 (zra (P:=P) (d:=d) (t2:=t) (zs:=zs) (m:=(0,ms)) (lo:=0) (len:=ys.length) ht he hk (s:=⟨n,(tx,.rsub (0,ms) kk 0 ys.length)::tm,hp,up⟩) (by simp[St.ev,look]) hb hkk hd (by omega) rfl fun β own a w hr=>?_) ?_:Op1 P f R all _ l k ⟨n,(tx,.rsub (0,ms) kk 0 ys.length)::tm,hp,up⟩) i rest ho hrest β own a w (zw7 hrep hb hx')
 ·have h1:=hr.ev hy2
  generalize hv:a.eval y=v at h1
  cases h1 with
  | d _ _ h1 =>
   by_cases hne:zs=[]
   ·subst hne
    obtain⟨ad,cap,rfl⟩:=h1.slice_len
    exact⟨ad,0,cap,[],rfl,by simp,⟨by simp,by simp,by simp,by simp⟩,fun h=>absurd rfl h⟩
   ·obtain⟨ad,cap,us,rfl,h2,h3⟩:=zeb h1 hz hne
    exact⟨some ad,zs.length,cap,us,rfl,by rw[hlen];exact(Nat.min_self _).symm,h2,fun _=>⟨ad,rfl,h3⟩⟩
 ·rw[hsp];exact h
end Go.Ab
namespace Go.Ab
variable{P:Program}{n:Nat}{tm:List (Nat × PV)}{hp:Hp}{up:Hf}{d:Nat}{ty:TypeId}{pos:String}{aft:Array Edge}{gd:Option (Nat × Bool)}
theorem y3n{x:Operand}{src dst:TypeId}{k k':IntKind}{b c:Int}{t1 t2:TI}[h1:z0n P src t1][h2:z0n P dst t2](hk:t2.kind=.int k')(hk1:t1.kind=.int k)(hx:St.ev ⟨n,tm,hp,up⟩ x=some (I k b))(hd:d<n)(hr:k'.wrap b=c) :
 z0y P ⟨some d,.convert src dst x,ty,pos,aft,gd⟩ ⟨n,tm,hp,up⟩ ⟨n,(d,I k' c)::tm,hp,up⟩ :=
 z0k rfl hd fun β own a w hrep=>⟨.int k' c,by
  simp[execOp,(hrep.ev hx).lit,convert,run_underlying (h2.int hk),run_underlying (h1.int hk1),Conv.intToInt,hr],.I _ _⟩
theorem zhi{x:Operand}{src dst:TypeId}{k k':IntKind}{b c:Int}{t1 t2:TI}[h1:z0n P src t1][h2:z0n P dst t2](hk:t2.kind=.int k')(hk1:t1.kind=.int k)(hr:k'.wrap b=c) :
 Val P (.convert src dst x) ty [(x,I k b)] [] (I k' c):=fun d pos aft gd n tm hp up hd hx hb=>y3n hk hk1 hx.1 hd hr
end Go.Ab
namespace Go.Ab
variable{P:Program}{f:FuncId}{R:z2y}{k:List Item}{s:St}{all:Array Oper}{l:List Oper}
variable{n:Nat}{tm:List (Nat × PV)}{hp:Hp}{up:Hf}{d:Nat}{ty:TypeId}{pos:String}{aft:Array Edge}{op:Op}
structure y3b(A B:Prop):Prop where
 a:A
 b:B
theorem yc6{c:Operand}{x y:Code}{p:Prop}{inst:Decidable p}(hc:s.ev c=some (.d (.lit (.bool (decide p)))))(h:y3b (p→Run P f R (.code x::k) s) (¬p→Run P f R (.code y::k) s)):Run P f R (.code (.cond c x y)::k) s:=ydr hc h.a h.b
theorem ya8{c:Operand}{x y:Code}{p:Prop}{inst:Decidable p}(hc:s.ev c=some (.d (.lit (.bool (!decide p)))))(h:y3b (¬p→Run P f R (.code x::k) s) (p→Run P f R (.code y::k) s)):Run P f R (.code (.cond c x y)::k) s:=ybj hc h.a h.b
theorem y3u{c:Operand}{x y:Code}{t:Bool}(hc:s.ev c=some (.d (.lit (.bool t))))(h:y3b (t=true→Run P f R (.code x::k) s) (t=false→Run P f R (.code y::k) s)):Run P f R (.code (.cond c x y)::k) s:=zkb hc h.a h.b
theorem y6k{j dd:Nat}{w t:Bool}(hj:(all[j]?).bind (·.dst)=some dd)(hl:look tm dd=some (B t))
 (h:y3b (t=true→Ops P f R all (⟨some d,op,ty,pos,aft,some (j,w)⟩::l) k ⟨n,(dd,B true)::tm,hp,up⟩) (t=false→Ops P f R all (⟨some d,op,ty,pos,aft,some (j,w)⟩::l) k ⟨n,(dd,B false)::tm,hp,up⟩)):Ops P f R all (⟨some d,op,ty,pos,aft,some (j,w)⟩::l) k ⟨n,tm,hp,up⟩:=zru hj hl h.a h.b
theorem zz7{j dd:Nat}{w:Bool}{q:Prop}{inst:Decidable q}(hj:(all[j]?).bind (·.dst)=some dd)(hl:look tm dd=some (B (decide q)))
 (h:y3b (q→Ops P f R all (⟨some d,op,ty,pos,aft,some (j,w)⟩::l) k ⟨n,(dd,B true)::tm,hp,up⟩) (¬q→Ops P f R all (⟨some d,op,ty,pos,aft,some (j,w)⟩::l) k ⟨n,(dd,B false)::tm,hp,up⟩)):Ops P f R all (⟨some d,op,ty,pos,aft,some (j,w)⟩::l) k ⟨n,tm,hp,up⟩:=y4p hj hl h.a h.b
theorem zyt{j dd:Nat}{w:Bool}{q:Prop}{inst:Decidable q}(hj:(all[j]?).bind (·.dst)=some dd)(hl:look tm dd=some (B (!decide q)))
 (h:y3b (¬q→Ops P f R all (⟨some d,op,ty,pos,aft,some (j,w)⟩::l) k ⟨n,(dd,B true)::tm,hp,up⟩) (q→Ops P f R all (⟨some d,op,ty,pos,aft,some (j,w)⟩::l) k ⟨n,(dd,B false)::tm,hp,up⟩)):Ops P f R all (⟨some d,op,ty,pos,aft,some (j,w)⟩::l) k ⟨n,tm,hp,up⟩:=y4d hj hl h.a h.b
structure Hid(q:Prop):Prop where
 h:q
theorem fk{A B:Prop}(a:A)(b:B):y3b A B:=⟨a,b⟩
theorem y49{p q:Prop}(h:q)(g:Hid q→p:=by intro qh;(first|refine z3e (z6z rfl rfl rfl) rfl rfl (by decide) ?_|refine z3e (z4f rfl rfl rfl rfl) rfl rfl (by decide) ?_|refine z3e (zs0 rfl rfl rfl) rfl rfl (by decide) ?_|refine z3e (zhd rfl rfl rfl rfl) rfl rfl (by decide) ?_|refine z3e (zo3 rfl rfl) rfl rfl (by decide) ?_|refine z3e (zwf rfl rfl rfl rfl) rfl rfl (by decide) ?_);exact qh.1):p:=g ⟨h⟩
theorem y4f{p q:Prop}(h:q)(g:Hid q→p:=by intro qh;(first|refine z3f (z6z rfl rfl rfl) (by first|exact rfl|exact⟨_,rfl,rfl,rfl⟩) rfl rfl (by decide) ?_|refine z3f (z4f rfl rfl rfl rfl) (by first|exact rfl|exact⟨_,rfl,rfl,rfl⟩) rfl rfl (by decide) ?_|refine z3f (zs0 rfl rfl rfl) (by first|exact rfl|exact⟨_,rfl,rfl,rfl⟩) rfl rfl (by decide) ?_|refine z3f (zhd rfl rfl rfl rfl) (by first|exact rfl|exact⟨_,rfl,rfl,rfl⟩) rfl rfl (by decide) ?_|refine z3f (zo3 rfl rfl) (by first|exact rfl|exact⟨_,rfl,rfl,rfl⟩) rfl rfl (by decide) ?_|refine z3f (zwf rfl rfl rfl rfl) (by first|exact rfl|exact⟨_,rfl,rfl,rfl⟩) rfl rfl (by decide) ?_);exact qh.1):p:=g ⟨h⟩
theorem zwu{p q:Prop}(h:q)(g:Hid q→p:=by intro qh;(first|refine z3e (zun rfl rfl) rfl rfl (by decide) ?_|refine z3e (znq rfl rfl) rfl rfl (by decide) ?_|refine z3e (znb rfl rfl) rfl rfl (by decide) ?_);exact qh.1):p:=g ⟨h⟩
theorem y01{p q:Prop}(h:q)(g:Hid q→p:=by intro qh;(first|refine z3f (zun rfl rfl) (by first|exact rfl|exact⟨_,rfl,rfl,rfl⟩) rfl rfl (by decide) ?_|refine z3f (znq rfl rfl) (by first|exact rfl|exact⟨_,rfl,rfl,rfl⟩) rfl rfl (by decide) ?_|refine z3f (znb rfl rfl) (by first|exact rfl|exact⟨_,rfl,rfl,rfl⟩) rfl rfl (by decide) ?_);exact qh.1):p:=g ⟨h⟩
theorem zxq{p q:Prop}(h:q)(g:Hid q→p:=by intro qh;(first|refine z3e (z1u rfl (by omega) (idx hx) rfl) rfl rfl (by decide) ?_|refine z3e (z1u rfl (by omega) (idx hy) rfl) rfl rfl (by decide) ?_|refine z3e (z1u rfl (by omega) (idx hz) rfl) rfl rfl (by decide) ?_);exact qh.1):p:=g ⟨h⟩
theorem y08{p q:Prop}(h:q)(g:Hid q→p:=by intro qh;(first|refine z3f (z1u rfl (by omega) (idx hx) rfl) (by first|exact rfl|exact⟨_,rfl,rfl,rfl⟩) rfl rfl (by decide) ?_|refine z3f (z1u rfl (by omega) (idx hy) rfl) (by first|exact rfl|exact⟨_,rfl,rfl,rfl⟩) rfl rfl (by decide) ?_|refine z3f (z1u rfl (by omega) (idx hz) rfl) (by first|exact rfl|exact⟨_,rfl,rfl,rfl⟩) rfl rfl (by decide) ?_);exact qh.1):p:=g ⟨h⟩
theorem y9y{p q:Prop}(h:q)(g:Hid q→p:=by intro qh;(first|refine z3e (z16 (zwj (by omega) (by omega))) rfl rfl (by decide) ?_|refine z3e (z1i (zwj (by omega) (by omega))) rfl rfl (by decide) ?_|refine z3e (zfs (by omega)) rfl rfl (by decide) ?_|refine z3e (z7l (zwj (by omega) (by omega))) rfl rfl (by decide) ?_|refine z3e y1t rfl rfl (by decide) ?_|refine z3e v_sgtr rfl rfl (by decide) ?_|refine z3e y2v rfl rfl (by decide) ?_|refine z3e v_sleq rfl rfl (by decide) ?_|refine z3e (v_beql rfl) rfl rfl (by decide) ?_|refine z3e (y2y rfl) rfl rfl (by decide) ?_);exact qh.1):p:=g ⟨h⟩
theorem y7j{p q:Prop}(h:q)(g:Hid q→p:=by intro qh;(first|refine z3f (z16 (zwj (by omega) (by omega))) (by first|exact rfl|exact⟨_,rfl,rfl,rfl⟩) rfl rfl (by decide) ?_|refine z3f (z1i (zwj (by omega) (by omega))) (by first|exact rfl|exact⟨_,rfl,rfl,rfl⟩) rfl rfl (by decide) ?_|refine z3f (zfs (by omega)) (by first|exact rfl|exact⟨_,rfl,rfl,rfl⟩) rfl rfl (by decide) ?_|refine z3f (z7l (zwj (by omega) (by omega))) (by first|exact rfl|exact⟨_,rfl,rfl,rfl⟩) rfl rfl (by decide) ?_|refine z3f y1t (by first|exact rfl|exact⟨_,rfl,rfl,rfl⟩) rfl rfl (by decide) ?_|refine z3f v_sgtr (by first|exact rfl|exact⟨_,rfl,rfl,rfl⟩) rfl rfl (by decide) ?_|refine z3f y2v (by first|exact rfl|exact⟨_,rfl,rfl,rfl⟩) rfl rfl (by decide) ?_|refine z3f v_sleq (by first|exact rfl|exact⟨_,rfl,rfl,rfl⟩) rfl rfl (by decide) ?_|refine z3f (v_beql rfl) (by first|exact rfl|exact⟨_,rfl,rfl,rfl⟩) rfl rfl (by decide) ?_|refine z3f (y2y rfl) (by first|exact rfl|exact⟨_,rfl,rfl,rfl⟩) rfl rfl (by decide) ?_);exact qh.1):p:=g ⟨h⟩
theorem yar{p q:Prop}(h:q)(g:Hid q→p:=by intro qh;(first|refine z3e (y1b rfl) rfl rfl (by decide) ?_|refine z3e (ya1 rfl) rfl rfl (by decide) ?_|refine z3e (y2j rfl) rfl rfl (by decide) ?_|refine z3e (z18 rfl) rfl rfl (by decide) ?_|refine z3e (z4e rfl) rfl rfl (by decide) ?_|refine z3e y7c rfl rfl (by decide) ?_|refine z3e y9b rfl rfl (by decide) ?_|refine z4x rfl rfl _ rfl rfl rfl rfl rfl rfl rfl (by decide) (by omega) ?_);exact qh.1):p:=g ⟨h⟩
theorem yai{p q:Prop}(h:q)(g:Hid q→p:=by intro qh;(first|refine z3f (y1b rfl) (by first|exact rfl|exact⟨_,rfl,rfl,rfl⟩) rfl rfl (by decide) ?_|refine z3f (ya1 rfl) (by first|exact rfl|exact⟨_,rfl,rfl,rfl⟩) rfl rfl (by decide) ?_|refine z3f (y2j rfl) (by first|exact rfl|exact⟨_,rfl,rfl,rfl⟩) rfl rfl (by decide) ?_|refine z3f (z18 rfl) (by first|exact rfl|exact⟨_,rfl,rfl,rfl⟩) rfl rfl (by decide) ?_|refine z3f (z4e rfl) (by first|exact rfl|exact⟨_,rfl,rfl,rfl⟩) rfl rfl (by decide) ?_|refine z3f y7c (by first|exact rfl|exact⟨_,rfl,rfl,rfl⟩) rfl rfl (by decide) ?_|refine z3f y9b (by first|exact rfl|exact⟨_,rfl,rfl,rfl⟩) rfl rfl (by decide) ?_|refine z4y (by first|exact rfl|exact⟨_,rfl,rfl,rfl⟩) rfl rfl _ rfl rfl rfl rfl rfl rfl rfl (by decide) (by omega) ?_);exact qh.1):p:=g ⟨h⟩
theorem zz5{p q:Prop}(h:q)(g:Hid q→p:=by intro qh;(first|refine y07 rfl rfl rfl rfl rfl rfl ?_|refine zln rfl rfl rfl rfl rfl rfl rfl rfl rfl ?_);exact qh.1):p:=g ⟨h⟩
theorem zx2{p q:Prop}(h:q)(g:Hid q→p:=by intro qh;(first|refine y0u (by first|exact rfl|exact⟨_,rfl,rfl,rfl⟩) rfl rfl rfl rfl rfl rfl ?_|refine zb8 (by first|exact rfl|exact⟨_,rfl,rfl,rfl⟩) rfl rfl rfl rfl rfl rfl rfl rfl rfl ?_);exact qh.1):p:=g ⟨h⟩
theorem zx9{p q:Prop}(h:q)(g:Hid q→p:=by intro qh;(refine z09 (zdi rfl rfl (by decide)) ?_);exact qh.1):p:=g ⟨h⟩
theorem zx6{p q:Prop}(h:q)(g:Hid q→p:=by intro qh;(refine y67 (by first|exact rfl|exact⟨_,rfl,rfl,rfl⟩) rfl rfl (by decide) ?_);exact qh.1):p:=g ⟨h⟩
theorem yaa{p q:Prop}(h:q)(g:Hid q→p:=by intro qh;(refine z09 (y5g rfl rfl (by decide)) ?_);exact qh.1):p:=g ⟨h⟩
theorem zz0{p q:Prop}(h:q)(g:Hid q→p:=by intro qh;(refine y64 rfl rfl rfl rfl rfl rfl rfl (by decide) ?_);exact qh.1):p:=g ⟨h⟩
theorem zyc{p q:Prop}(h:q)(g:Hid q→p:=by intro qh;(refine ztd (by first|exact rfl|exact⟨_,rfl,rfl,rfl⟩) rfl rfl rfl rfl rfl rfl rfl (by decide) ?_);exact qh.1):p:=g ⟨h⟩
theorem y82{p q:Prop}(h:q)(g:Hid q→p:=by intro qh;(refine ybu rfl rfl rfl rfl rfl rfl rfl rfl (by decide) ?_);exact qh.1):p:=g ⟨h⟩
theorem y84{p q:Prop}(h:q)(g:Hid q→p:=by intro qh;(refine yc2 (by first|exact rfl|exact⟨_,rfl,rfl,rfl⟩) rfl rfl rfl rfl rfl rfl rfl rfl (by decide) ?_);exact qh.1):p:=g ⟨h⟩
theorem y60{p q:Prop}(h:q)(g:Hid q→p:=by intro qh;(first|refine z3e (z8u rfl rfl (zr4 (by omega) (by omega))) rfl rfl (by decide) ?_|refine z3e (z8u rfl rfl (zwj (by omega) (by omega))) rfl rfl (by decide) ?_);exact qh.1):p:=g ⟨h⟩
theorem y57{p q:Prop}(h:q)(g:Hid q→p:=by intro qh;(first|refine z3f (z8u rfl rfl (zr4 (by omega) (by omega))) (by first|exact rfl|exact⟨_,rfl,rfl,rfl⟩) rfl rfl (by decide) ?_|refine z3f (z8u rfl rfl (zwj (by omega) (by omega))) (by first|exact rfl|exact⟨_,rfl,rfl,rfl⟩) rfl rfl (by decide) ?_);exact qh.1):p:=g ⟨h⟩
theorem ybt{p q:Prop}(h:q)(g:Hid q→p:=by intro qh;(first|refine ye2 rfl (by decide) ?_|(apply z1f;refine y49 ?_)|(apply y4b;refine zwu ?_)|(apply z01;refine zxq ?_)|(apply z0t;refine y9y ?_)|(apply z14;refine yar ?_)|(apply z0x;refine zz5 ?_)|(apply z1s;refine zx9 ?_)|(apply z1n;refine yaa ?_)|(apply ztf;refine zz0 ?_)|(apply zqq;refine y82 ?_)|(apply z4q;refine y60 ?_));exact qh.1):p:=g ⟨h⟩
theorem yc7{p q:Prop}(h:q)(g:Hid q→p:=by intro qh;(first|refine ye0 ?_|apply ycn|refine ydz rfl rfl (by decide) ?_|refine ybo rfl rfl (by decide) ?_|refine zz7 rfl rfl ?_|refine zyt rfl rfl ?_|refine y6k rfl rfl ?_);exact qh.1):p:=g ⟨h⟩
theorem ycu{p q:Prop}(h:q)(g:Hid q→p:=by intro qh;(first|apply y4w|apply zzr|refine ya7 rfl ?_|refine y6h rfl ?_|apply yay|apply y4e|apply y4q|apply r_inScope|apply ye7|apply zte|apply r_label|refine yc6 rfl ?_|refine ya8 rfl ?_|refine y3u rfl ?_|refine y8o rfl ?_);exact qh.1):p:=g ⟨h⟩
theorem ye5{p q:Prop}(h:q)(g:Hid q→p:=by intro qh;(first|(apply yag;refine ycf mix (by kernel_rfl) ?_)|refine y7s rfl rfl (by decide) ?_|refine y3x rfl rfl (by decide) ?_|refine ye6 rfl (by first|exact rfl|exact⟨_,rfl,rfl,rfl⟩) (by decide) ?_|(apply z0b;refine y4f ?_)|(apply zwx;refine y01 ?_)|(apply z02;refine y08 ?_)|(apply z19;refine y7j ?_)|(apply z4i;refine yai ?_)|(apply z10;refine zx2 ?_)|(apply zyv;refine zx6 ?_)|(apply zo8;refine zyc ?_)|(apply y87;refine y84 ?_)|(apply y3k;refine y57 ?_));exact qh.1):p:=g ⟨h⟩
theorem z04{p q:Prop}(h:q)(g:Hid q→p:=by intro qh;(first|(apply z0r;refine ybt ?_)|(apply ycd;refine yc7 ?_)|(apply z7n;refine ycu ?_)|(apply zle;refine ye5 ?_));exact qh.1):p:=g ⟨h⟩
end Go.Ab
namespace Go.Ab
theorem z3y(H:Hf)(m:Nm)(b:Blk):upd H m b m.1 m.2=some b:=by simp[upd]
theorem z1v(H:Hf)(m:Nm)(b c:Blk):upd (upd H m b) m c=upd H m c:=by
 funext d s;simp only[upd];split <;> rfl
theorem zil(H:Hf)(m q:Nm)(b:Blk)(h:q≠m):upd H m b q.1 q.2=H q.1 q.2:=by
 simp only[upd]
 rw[zAy]
 rintro⟨h1,h2⟩
 exact h (Prod.ext h1 h2)
end Go.Ab
namespace Go.Ab
open Go.RowKit
variable{P:Program}{f:FuncId}{R:z2y}{k:List Item}{all:Array Oper}{o:Oper}{l:List Oper}
variable{n:Nat}{tm:List (Nat × PV)}{hp:Hp}{up:Hf}{d:Nat}{ty:TypeId}{pos:String}{aft:Array Edge}{gd:Option (Nat × Bool)}{op:Op}{p:PV}
theorem Ext.of_below{w w':World}{own:Nat→Prop}(h:Below w.heap.size w w'):Ext w own w' own:=⟨h.os,h.tape,h.output,h.size,fun b hb _=>h.block b hb,fun _ _ h=>h⟩
theorem HR.of_below{H:Hf}{β:Nm→Value}{own:Nat→Prop}{w w':World}(h:HR H β own w)(hb:Below w.heap.size w w'):HR H β own w':=by
 refine⟨fun q b hq=>?_,h.inj,fun g hg=>zAx (h.lt g hg) hb.size⟩
 have hk:=h.blk q b hq
 cases hl:b.live with
 | false=>cases b <;> first|(simp[Blk.live]at hl;done)|exact .gone _
 | true=>exact hk.kept (Ext.of_below hb) fun lb g hg=>⟨hb.block g (h.lt g (hk.block_lt lb hg)),hk.block_lt lb hg⟩
theorem zjx{g:FuncId}{ps:List PV}{bs:List (Nm × Blk)}{p:PV}(hp:Plain P g)
 (h:∀(H:Hf),(∀q∈bs,H q.1.1 q.1.2=some q.2)→∀β own w vals,HR H β own w→z6x β w own ps vals→∃v,Calls P g vals.toArray w (fun e w'=>e=.returned v∧Below w.heap.size w w')∧∀w' own',PR β w' own' p v):z0u P g ps bs [] p :=
 zfv hp fun H hH β own w vals hHR hA=>by
  obtain⟨v,hc,hv⟩:=h H hH β own w vals hHR hA
  refine hc.mono ?_
  rintro e w' ⟨rfl,hb⟩
  exact⟨v,_,H,own,rfl,⟨rfl,rfl⟩,.v _ _ (hv w' own),hHR.of_below hb,Ext.of_below hb⟩
theorem z1q{m:Nm}{b:Blk}{bs:List (Nm × Blk)}{s:St}(h:z3h s m=some b)(h':BkE s bs):BkE s ((m,b)::bs):=by
 simp only[BkE,List.map_cons,List.cons.injEq]at *
 exact⟨h,h'⟩
theorem z5l{s:St}:BkE s []:=rfl
section
variable{g:FuncId}{args:List Operand}{ps:List PV}{ats:Array TypeId}{md ms:Nat}{b b':Blk}{bs:List (Nm × Blk)}
theorem y3y(hsp:z0u P g ps (((md+1,ms),b)::bs) [((md+1,ms),b')] p)(hev:St.evs ⟨n,tm,hp,up⟩ args=some ps)(hb:up md ms=some b)(hbs:BkE ⟨n,tm,hp,up⟩ bs)(hd:d<n)
 (h:Ops P f R all l k ⟨n,(d,p)::tm,hp,upd up (md,ms) b'⟩):Op1 P f R all ⟨some d,.call ⟨.value (.func g),args.toArray,ats⟩,ty,pos,aft,gd⟩ l k ⟨n,tm,hp,up⟩ :=
 zju hsp hev (z1q (m:=(md+1,ms)) hb hbs) hd rfl h
theorem zl5(hsp:z0u P g ps (((md+1,ms),b)::bs) [((md+1,ms),b')] p)(hb:up md ms=some b)(hbs:BkE ⟨n,tm,hp,up⟩ bs)(h:Ops P f R all l k ⟨n,(d,p)::tm,hp,upd up (md,ms) b'⟩)(hev:St.evs ⟨n,tm,hp,up⟩ args=some ps:=by exact rfl)(hd:d<n:=by decide):Op1 P f R all ⟨some d,.call ⟨.value (.func g),args.toArray,ats⟩,ty,pos,aft,gd⟩ l k ⟨n,tm,hp,up⟩:=y3y hsp hev hb hbs hd h
end
end Go.Ab
namespace Go.Ab
variable{P:Program}
theorem z6p{src dst:TypeId}{ty:TypeId}{x:Operand}{k:IntKind}{b:Int}{t1 t2:TI}[h1:z0n P src t1][h2:z0n P dst t2](hk:t2.kind=.str)(hk1:t1.kind=.int k) :
 Val P (.convert src dst x) ty [(x,I k b)] [] (S (Utf8.encode b)):=fun d pos aft gd n tm hp up hd hx hb =>
 z0k rfl hd fun β own a w hrp=>⟨.string (Utf8.encode b),by
  simp only[execOp,(hrp.ev hx.1).lit]
  simp[convert,run_underlying (h1.int hk1),run_underlying (h2.str hk),Conv.intToString],.S _⟩
end Go.Ab
namespace Go.Ab
variable{P:Program}{f:FuncId}{R:z2y}{k:List Item}{all:Array Oper}{l:List Oper}
variable{n:Nat}{tm:List (Nat × PV)}{hp:Hp}{up:Hf}
def Wk:List PV→List PV→Prop
 | [],[]=>True
 | p::ps,q::qs=>(q=p∨q=.any)∧Wk ps qs
 | _,_=>False
theorem Wk.len:∀ {ps qs:List PV},Wk ps qs→qs.length=ps.length
 | [],[],_=>rfl
 | p::ps,q::qs,h=>by simp[Wk.len h.2]
 | [],_::_,h=>h.elim
 | _::_,[],h=>h.elim
end Go.Ab
namespace Go.Ab
variable{P:Program}{f:FuncId}{R:z2y}{k:List Item}{all:Array Oper}{l:List Oper}
variable{n:Nat}{tm:List (Nat × PV)}{hp:Hp}{up:Hf}{d:Nat}{ty:TypeId}{pos:String}{aft:Array Edge}{gd:Option (Nat × Bool)}{p:PV}
theorem y3h{t:TypeId}{ti:TI}[ht:z0n P t ti]{x:Operand}{md ms off:Nat}{b:Blk}{cs:List PV}(hev:EvE ⟨n,tm,hp,up⟩ [(x,.ptr (md+1,ms) off)])(hb:up md ms=some b)(hc:atF (md+1,ms) b=.box cs)(hy:cs[off]? =some p)(hs:ti.size=1)(ha:ti.agg=false)(hd:d<n)
 (h:Ops P f R all l k ⟨n,(d,p)::tm,hp,up⟩):Op1 P f R all ⟨some d,.load t x,ty,pos,aft,gd⟩ l k ⟨n,tm,hp,up⟩ :=
 z3e (z4f (m:=(md+1,ms)) (b:=b) hc hy hs ha) hev (bkN hb) hd h
theorem zcl{t:TypeId}{ti:TI}[ht:z0n P t ti]{x:Operand}{md ms off:Nat}{b:Blk}{cs:List PV}(hb:up md ms=some b)(h:Ops P f R all l k ⟨n,(d,p)::tm,hp,up⟩)(hev:EvE ⟨n,tm,hp,up⟩ [(x,.ptr (md+1,ms) off)]:=by exact rfl)(hc:atF (md+1,ms) b=.box cs:=by exact rfl)(hy:cs[off]? =some p:=by exact rfl)(hs:ti.size=1:=by exact rfl)(ha:ti.agg=false:=by exact rfl)(hd:d<n:=by decide):Op1 P f R all ⟨some d,.load t x,ty,pos,aft,gd⟩ l k ⟨n,tm,hp,up⟩:=y3h hev hb hc hy hs ha hd h
theorem y66{id:Nat}{ops:List Oper}{s0:St}{done:List Eff}{gr:List (Nat × PV)}{t:TypeId}{ti:TI}[ht:z0n P t ti]{x:Operand}{md ms off:Nat}{b:Blk}{cs:List PV}(hg:GOK ops.toArray gd gr ⟨n,tm,hp,up⟩)(hev:EvE ⟨n,tm,hp,up⟩ [(x,.ptr (md+1,ms) off)])(hb:up md ms=some b)(hc:atF (md+1,ms) b=.box cs)(hy:cs[off]? =some p)(hs:ti.size=1)(ha:ti.agg=false)(hd:d<n)
 (h:Tr P f R id ops k s0 (done++[⟨gr++rd [(x,.ptr (md+1,ms) off)],[((md+1,ms),b)],[],[(d,p)],[]⟩]) ⟨n,(d,p)::tm,hp,up⟩ l):Tr P f R id ops k s0 done ⟨n,tm,hp,up⟩ (⟨some d,.load t x,ty,pos,aft,gd⟩::l) :=
 z3f (z4f (m:=(md+1,ms)) (b:=b) hc hy hs ha) hg hev (bkN hb) hd h
theorem z5c{id:Nat}{ops:List Oper}{s0:St}{done:List Eff}{gr:List (Nat × PV)}{t:TypeId}{ti:TI}[ht:z0n P t ti]{x:Operand}{md ms off:Nat}{b:Blk}{cs:List PV}(hb:up md ms=some b)(h:Tr P f R id ops k s0 (done++[⟨gr++rd [(x,.ptr (md+1,ms) off)],[((md+1,ms),b)],[],[(d,p)],[]⟩]) ⟨n,(d,p)::tm,hp,up⟩ l)(hg:GOK ops.toArray gd gr ⟨n,tm,hp,up⟩:=by first|exact rfl|exact⟨_,rfl,rfl,rfl⟩)(hev:EvE ⟨n,tm,hp,up⟩ [(x,.ptr (md+1,ms) off)]:=by exact rfl)(hc:atF (md+1,ms) b=.box cs:=by exact rfl)(hy:cs[off]? =some p:=by exact rfl)(hs:ti.size=1:=by exact rfl)(ha:ti.agg=false:=by exact rfl)(hd:d<n:=by decide):Tr P f R id ops k s0 done ⟨n,tm,hp,up⟩ (⟨some d,.load t x,ty,pos,aft,gd⟩::l):=y66 hg hev hb hc hy hs ha hd h
end Go.Ab
namespace Go.Ab
variable{P:Program}
theorem zaf{s:St}{β:Nm→Value}{own:Nat→Prop}{a:Act}{w:World}(hrep:Rep s β own a w){t ms:Nat}{ty:TypeId}{ti:TI}[hty:z0n P ty ti]{x:D}(ht:look s.tm t=some (.ptr (0,ms) 0))(hb:look s.hp ms=some (.box [.d x]))(hs:ti.size=1)(ha:ti.agg=false) :
 ∃g v,a.tmps[t]?.getD undef=.pointer (some ⟨g,0,none⟩)∧(loadVar ty ⟨g,0,none⟩).run P w=.ok v w∧PR β w own (.d x) v:=by
 have hp:=hrep.tm t _ ht
 obtain⟨g,tt,cur,hβ,ho,hg,hl0,h1,hd0⟩:=hrep.box (m:=(0,ms)) hb
 obtain⟨c,rfl⟩:∃c,cur=[c]:=by
  cases cur with
  | nil=>simp at hl0
  | cons c r=>cases r with
   | nil=>exact⟨c,rfl⟩
   | cons _ _=>simp at hl0
 refine⟨g,c,?_,?_,hd0 0 _ c rfl rfl⟩
 ·rw[←Array.getD_eq_getD_getElem?]
  generalize a.tmps.getD t undef=v at hp
  cases hp with
  | ptr _ _ g' hg'=>rw[hβ]at hg';simp at hg';subst hg';rfl
 ·have:=z0z (P:=P) hty g 0 [c] w (by simp[hs]) (fun j v hj=>by
   rw[Nat.zero_add,cell_of_row w g j _ tt (0,0) hg];simpa using hj)
  rcases this with h'|h'
  ·simpa[ha]using h'
  ·exact absurd hs h'.2
theorem zjf{fn:Func}{s:St}{t1 t2 t3 t4 m1 m2 m3 m4:Nat}{y1 y2 y3 y4:TypeId}{i1 i2 i3 i4:TI}{x1 x2 x3 x4:D}[h1:z0n P y1 i1][h2:z0n P y2 i2][h3:z0n P y3 i3][h4:z0n P y4 i4](h:fn.results=#[.cell t1 y1,.cell t2 y2,.cell t3 y3,.cell t4 y4])
 (a1:look s.tm t1=some (.ptr (0,m1) 0)) (a2:look s.tm t2=some (.ptr (0,m2) 0)) (a3:look s.tm t3=some (.ptr (0,m3) 0)) (a4:look s.tm t4=some (.ptr (0,m4) 0)) (b1:look s.hp m1=some (.box [.d x1])) (b2:look s.hp m2=some (.box [.d x2])) (b3:look s.hp m3=some (.box [.d x3])) (b4:look s.hp m4=some (.box [.d x4]))
 (s1:i1.size=1) (s2:i2.size=1) (s3:i3.size=1) (s4:i4.size=1) (g1:i1.agg=false) (g2:i2.agg=false) (g3:i3.agg=false) (g4:i4.agg=false) :
 Res P fn s (.v (.tup [.d x1,.d x2,.d x3,.d x4])):=fun β own a w hrep=>by
 obtain⟨p1,v1,e1,l1,r1⟩:=zaf (P:=P) hrep (ty:=y1) a1 b1 s1 g1
 obtain⟨p2,v2,e2,l2,r2⟩:=zaf (P:=P) hrep (ty:=y2) a2 b2 s2 g2
 obtain⟨p3,v3,e3,l3,r3⟩:=zaf (P:=P) hrep (ty:=y3) a3 b3 s3 g3
 obtain⟨p4,v4,e4,l4,r4⟩:=zaf (P:=P) hrep (ty:=y4) a4 b4 s4 g4
 refine⟨.tuple #[v1,v2,v3,v4],own,?_,Ext.refl _ _,hrep.heap.outer,?_⟩
 ·simp[results,h,e1,e2,e3,e4,asAddr,l1,l2,l3,l4]
 ·refine .v _ _ (.tup [.d x1,.d x2,.d x3,.d x4] [v1,v2,v3,v4] rfl fun j p v hp hv=>?_)
  match j with
  | 0=>simp only[List.getElem?_cons_zero,zAh]at hp hv;subst hp hv;exact r1.low (.d x1) rfl
  | 1=>simp only[List.getElem?_cons_succ,List.getElem?_cons_zero,zAh]at hp hv;subst hp hv;exact r2.low (.d x2) rfl
  | 2=>simp only[List.getElem?_cons_succ,List.getElem?_cons_zero,zAh]at hp hv;subst hp hv;exact r3.low (.d x3) rfl
  | 3=>simp only[List.getElem?_cons_succ,List.getElem?_cons_zero,zAh]at hp hv;subst hp hv;exact r4.low (.d x4) rfl
  | j+4=>simp at hp
theorem zit{fn:Func}{s:St}{t m:Nat}{y:TypeId}{i:TI}{x:D}[h1:z0n P y i](h:fn.results=#[.cell t y])(a1:look s.tm t=some (.ptr (0,m) 0))(b1:look s.hp m=some (.box [.d x]))(s1:i.size=1)(g1:i.agg=false):Res P fn s (.v (.d x)):=fun β own a w hrep=>by
 obtain⟨p1,v1,e1,l1,r1⟩:=zaf (P:=P) hrep (ty:=y) a1 b1 s1 g1
 refine⟨v1,own,?_,Ext.refl _ _,hrep.heap.outer,.v _ _ (r1.low (.d x) rfl)⟩
 simp[results,h,e1,asAddr,l1]
end Go.Ab
namespace Go.Ab
variable{P:Program}
theorem z3u{fn:Func}{s:St}{t u q ms:Nat}{ty:TypeId}{ti:TI}{x y:D}[hty:z0n P ty ti]{cs:List PV}{ds:List D}(h:fn.results=#[.cell t ty,.tmp u,.tmp q])(ht:look s.tm t=some (.ptr (0,ms) 0))(hu:look s.tm u=some (.d x))(hq:look s.tm q=some (.d y))(hb:look s.hp ms=some (.box cs))(hds:z8d cs=some ds)(hs:ds.length=ti.size)(ha:ti.agg=true) :
 Res P fn s (.v (.tup [.d (.agg ds),.d x,.d y])):=fun β own a w hrep=>by
 have hp:=hrep.tm t _ ht
 have hpu:=hrep.tm u _ hu
 have hpq:=hrep.tm q _ hq
 obtain⟨g,tt,cur,hβ,ho,hg,hl0,h1,hd0⟩:=hrep.box (m:=(0,ms)) hb
 obtain⟨hl,_,hd⟩:=z4n (own:=own) (w:=w) (β:=β) ⟨hl0,h1,hd0⟩ hds
 refine⟨.tuple #[.agg cur.toArray,a.tmps.getD u undef,a.tmps.getD q undef],own,?_,Ext.refl _ _,hrep.heap.outer,?_⟩
 ·exact zD12
 ·refine .v _ _ (.tup [.d (.agg ds),.d x,.d y] [.agg cur.toArray,a.tmps.getD u undef,a.tmps.getD q undef] rfl fun j p v hp hv=>?_)
  match j with
  | 0 =>
   simp only[List.getElem?_cons_zero,zAh]at hp hv;subst hp hv
   exact zD64
  | 1=>simp only[List.getElem?_cons_succ,List.getElem?_cons_zero,zAh]at hp hv;subst hp hv;exact hpu.low (.d x) rfl
  | 2=>simp only[List.getElem?_cons_succ,List.getElem?_cons_zero,zAh]at hp hv;subst hp hv;exact hpq.low (.d y) rfl
  | j+3=>simp at hp
end Go.Ab
namespace Go.Ab
theorem y19:IntKind.u64.bits=64:=rfl
theorem y0n(a:Nat)(h:a<2 ^ 64):(BitVec.ofInt IntKind.u64.bits (a:Int)).toNat=a:=by
 show(BitVec.ofInt 64 (a:Int)).toNat=a
 rw[BitVec.ofInt_natCast,BitVec.toNat_ofNat]
 exact Nat.mod_eq_of_lt h
theorem zy5{a b:Nat}(ha:a<2 ^ 64)(hb:b<2 ^ 64):zf3 .u64 a b=((a &&& b:Nat):Int):=by
 rw[zf3,BitVec.toNat_and,y0n a ha,y0n b hb]
 have:=Nat.and_le_left (n:=a) (m:=b)
 exact zr4 (by omega) (by omega)
theorem y2k{a b:Nat}(ha:a<2 ^ 64)(hb:b<2 ^ 64):orV .u64 a b=((a ||| b:Nat):Int):=by
 rw[orV,BitVec.toNat_or,y0n a ha,y0n b hb]
 have:=Nat.or_lt_two_pow ha hb
 exact zr4 (by omega) (by omega)
theorem y5e{i:Nat}(hi:i<64):zkr .u64 1 (i:Nat)=((2 ^ i:Nat):Int):=by
 have hm:min (i:Int).toNat IntKind.u64.bits=i:=by rw[y19];simp;omega
 have hp:2 ^ i<2 ^ 64:=Nat.pow_lt_pow_right (by decide) hi
 rw[zkr,hm,Int.one_mul]
 have:((2:Int) ^ i)=((2 ^ i:Nat):Int):=by simp
 rw[this]
 generalize 2 ^ i=p at hp
 exact zr4 (by omega) (by omega)
theorem ztv{S i:Nat}(hS:S<2 ^ 64)(hi:i≤64):zf3 .u64 (zr8 .u64 S (i:Nat)) 1=if S.testBit i=true then 1 else 0:=by
 have h1:zr8 .u64 S (i:Nat)=((S / 2 ^ i:Nat):Int):=by
  rw[zdt (by omega) (by rw[y19];simp;exact hi),zA9]
  simp
 have h2:S / 2 ^ i<2 ^ 64:=Nat.lt_of_le_of_lt (Nat.div_le_self _ _) hS
 rw[h1,show(1:Int)=((1:Nat):Int)from rfl,zy5 h2 (by decide),Nat.and_one_is_mod,Nat.testBit_eq_decide_div_mod_eq]
 rcases Nat.mod_two_eq_zero_or_one (S / 2 ^ i)with h|h <;> simp[h]
end Go.Ab
namespace Go.Ab
variable{P:Program}{f:FuncId}{R:z2y}{k:List Item}{all:Array Oper}{o:Oper}{l:List Oper}
variable{n:Nat}{tm:List (Nat × PV)}{hp:Hp}{up:Hf}{d:Nat}{ty:TypeId}{pos:String}{aft:Array Edge}{gd:Option (Nat × Bool)}{op:Op}{p:PV}
theorem Quiet.upd{H:Hf}{y:Nat}{A:Blk}{ms:Nat}(h:Quiet H ms)(hA:A.says (0,ms)=false):Quiet (Ab.upd H (0,y) A) ms:=by
 intro s b hb
 simp only[Ab.upd,true_and]at hb
 by_cases h0:s=y
 ·rw[zAz h0]at hb;simp at hb;subst hb;exact hA
 ·rw[zAy h0]at hb;exact h s b hb
end Go.Ab
namespace Go.Ab
variable{P:Program}{f:FuncId}{R:z2y}{k:List Item}{all:Array Oper}{l:List Oper}
variable{n:Nat}{tm:List (Nat × PV)}{hp:Hp}{up:Hf}{d:Nat}{ty:TypeId}{pos:String}{aft:Array Edge}{gd:Option (Nat × Bool)}{p:PV}
theorem z2q{g:FuncId}{args:List Operand}{ps:List PV}{ats:Array TypeId}{m1 m2:Nat}{b1 b2 b':Blk}(hsp:z0u P g ps [((0,m1),b1),((0,m2),b2)] [((0,m2),b')] p)(hev:St.evs ⟨n,tm,hp,up⟩ args=some ps)
 (h1:look hp m1=some b1) (h2:look hp m2=some b2) (hd:d<n) (h:Ops P f R all l k ⟨n,(d,p)::tm,(m2,b')::hp,up⟩) :
 Op1 P f R all ⟨some d,.call ⟨.value (.func g),args.toArray,ats⟩,ty,pos,aft,gd⟩ l k ⟨n,tm,hp,up⟩ :=
 zju hsp hev (by simp[BkE,z3h,push,h1,h2]) hd rfl h
theorem yas{P:Program}{f:FuncId}{R:z2y}{k:List Item}{n:Nat}{tm:List (Nat × PV)}{hp:Hp}{up:Hf}{m:Nm}{b:Blk}(hb:up m.1 m.2=some b)(h:Run P f R k ⟨n,tm,hp,upd up m b⟩):Run P f R k ⟨n,tm,hp,up⟩:=by
 rwa [zbt hb]at h
end Go.Ab
namespace Go.Ab
variable{P:Program}{f:FuncId}{R:z2y}{k:List Item}{all:Array Oper}{l:List Oper}
variable{n:Nat}{tm:List (Nat × PV)}{hp:Hp}{up:Hf}{d:Nat}{ty:TypeId}{pos:String}{aft:Array Edge}{gd:Option (Nat × Bool)}{p:PV}
end Go.Ab
namespace Go.Ab
variable{P:Program}{f:FuncId}{R:z2y}{k:List Item}{all:Array Oper}{o:Oper}{l:List Oper}
variable{n:Nat}{tm:List (Nat × PV)}{hp:Hp}{up:Hf}{d:Nat}{ty:TypeId}{pos:String}{aft:Array Edge}{gd:Option (Nat × Bool)}{op:Op}{p:PV}
def btI(s:ByteArray):List Int:=s.data.toList.map fun b=>(b.toNat:Int)
abbrev by8(x:Int):List D:=[.lit (.int .u8 x)]
theorem zdd(s:ByteArray):(btI s).length=s.size:=by rw[btI,zA4,zAe];rfl
theorem zjv(s:ByteArray):Lib.strCells s=(btI s).map fun x=>Value.int .u8 x:=by rw[Lib.strCells,btI,List.map_map];rfl
theorem zxo(w:World)(own:Nat→Prop)(s:ByteArray):z96 w own 1 ((btI s).map by8) (Lib.strCells s):=by
 refine⟨fun x hx=>?_,?_,fun v hv=>?_,fun i x hi j y hj=>?_⟩
 ·simp only[List.mem_map]at hx;obtain⟨a,_,rfl⟩:=hx;rfl
 ·rw[Lib.strCells_length,zA4,zdd,Nat.mul_one]
 ·simp only[Lib.strCells,List.mem_map]at hv;obtain⟨b,_,rfl⟩:=hv;rfl
 ·rw[zAd]at hi
  cases hb:(btI s)[i]? with
  | none=>rw[hb]at hi;cases hi
  | some b =>
   rw[hb]at hi;simp at hi;subst hi
   cases j with
   | zero =>
    simp at hj;subst hj
    refine⟨.int .u8 b,?_,.lit _ rfl⟩
    rw[zjv,Nat.mul_one,Nat.add_zero,zAd,hb];rfl
   | succ j=>simp at hj
theorem zey(w:World)(t u ty e:TypeId)(i:TypeInfo)(ht:P.underlying t=some (.slice e))(hu:P.underlying u=some .string)(hi:P.info? e=some i)(hz:i.zero=some (.int .u8 0))(hsize:i.size=1)(hby:i.bytes=1)
 (v:Value) (n:Nat) (xs:List Value) (hown:w.ownsRow 0 e 1 v n xs) (s:ByteArray) (hbytes:n+s.size≤137438953472) :
 ∃v' w',(Builtin.append_ #[t,u] ty #[v,.string s]).run P w=.ok v' w'∧w'.ownsRow 0 e 1 v' (n+s.size) (xs++Lib.strCells s)∧w.grownBy w' v.ownBlock∧(v'.ownBlock=v.ownBlock∨v'.ownBlock=some w.heap.size):=by
 obtain⟨v',w',hrun,h2,h3,_⟩:=Lib.run_append_own_string (P:=P) w 0 t u ty e i ht hu hi hz hsize hby v n xs hown s (by unfold maxLen;omega) (by omega) (zAf _)
 refine⟨v',w',hrun,h2,h3,?_⟩
 rcases hown.2 with⟨rfl,rfl⟩|⟨g,cap,cur,rfl,hbg,hg,hnc,hcm,hcs,htake⟩
 ·by_cases hs:s.size=0
  ·have hx:=h2.2
   rw[hs,Nat.add_zero]at hx
   have hr:=Lib.run_append_own_string (P:=P) w 0 t u ty e i ht hu hi hz hsize hby (.slice none 0 0) 0 xs hown s (by unfold maxLen;omega) (by omega) (zAf _)
   obtain⟨v2,w2,r2,_,_,q2⟩:=hr
   rw[r2]at hrun
   simp only[Result.ok.injEq]at hrun
   left;rw[←hrun.1,q2.2 ⟨rfl,hs⟩]
  ·have hr:=run_append_nil_string (P:=P) w t u ty e i (.int .u8 0) ht hu hi hz s (by omega) (by omega) (by rw[hby];omega)
   exact zD90
 ·by_cases hroom:n+s.size≤cap
  ·have hr:=Lib.run_append_room_string (P:=P) w t u ty e i ht hu hi hsize g n cap cur hg s hroom (by omega)
   rw[hr]at hrun
   simp only[Result.ok.injEq]at hrun
   left;rw[←hrun.1];rfl
  ·have holds:∀j u,xs[j]? =some u→w.cell? ((⟨g,0,none⟩:Addr).add j)=some u:=hown.cells (g:=g) rfl
   have hxl:xs.length=n:=by simpa using hown.1
   have hr:=Lib.run_append_grow_string (P:=P) w t u ty e i (.int .u8 0) ht hu hi hz ⟨g,0,none⟩ n cap xs (by rw[hsize];simpa using hxl) holds s (by omega) (by omega) (by rw[hby];exact growslice_fits (by omega) (by omega))
   exact zD90
theorem zeq{s:St}{t tu e:TypeId}{ti tui te:TI}(ht:z0n P t ti)(hu:z0n P tu tui)(he:z0n P e te){x y:Operand}{m:Nm}{e':TypeId}{kk:Nat}{xs:List (List D)}{sb:ByteArray}(hx:s.ev x=some (.ref m))(hy:s.ev y=some (S sb))(hb:z3h s m=some (.row e' kk xs))
 (hm:m.1=0) (hk:ti.kind=.slice e) (hku:tui.kind=.str) (hee:e'=e) (hkk:kk=1) (hs1:te.size=1) (hb1:te.bytes=1) (hz:(P.info? e).bind (·.zero)=some (Value.int .u8 0)) (hsm:xs.length+sb.size≤137438953472)
 (hf:(z0i d s.hp&&z0p d s.tm)=true) (hd:d<s.n) :
 z0y P ⟨some d,.call ⟨.builtin .append,#[x,y],#[t,tu]⟩,ty,pos,aft,gd⟩ s (s.app ⟨[],[],[],[(d,.ref (0,d))],[(m,.gone),((0,d),.row e kk (xs++(btI sb).map by8))]⟩):=by
 obtain⟨n,tm,hp,up⟩:=s
 obtain⟨md,ms⟩:=m
 simp only at hm hf hd
 subst hm hee hkk
 intro β own a w hr
 have hlook:z0d (push hp up) (0,ms)=some (.row e' 1 xs):=hb
 obtain⟨vs,ho,hk0,hown,hrr⟩:=hr.row hlook
 have hyv:=(hr.ev hy).lit
 have hxv:=hr.ev hx
 generalize hv:a.eval x=v at hxv
 cases hxv with
 | ref _ =>
  obtain⟨i,uu,z,hi,huu,hzi,hs,hb',hkk,hzz,_⟩:=he.get
  have hz0:i.zero=some (.int .u8 0):=by
   rw[hi]at hz;exact hz
  obtain⟨v',w',hrun,hown',hgrow,hwhere⟩:=zey (P:=P) w t tu ty e' i (ht.slice hk) (hu.str hku) hi hz0 (hs.trans hs1) (hb'.trans hb1) (β (0,ms)) xs.length vs hown sb hsm
  have hus:=zxo w own sb
  have hblk:=z4l hown'
  have hblk0:=z4l hown
  have hE:Ext w own w' (fun g=>own g∨v'.ownBlock=some g):=by
   exact zD68
  have hr0:Rep ⟨n,tm,(ms,.gone)::hp,up⟩ β own a w:=⟨hr.size,hr.defers,hr.tm,by
   have:=hr.heap.drop (0,ms)
   rwa [←z1y ⟨n,tm,hp,up⟩ (0,ms) .gone]at this⟩
  have hrow:z96 w' (fun g=>own g∨v'.ownBlock=some g) 1 (xs++(btI sb).map by8) (vs++Lib.strCells sb):=(z96.app hrr hus).mono hE
  have hin:=hr0.install (d:=d) (b:=.row e' 1 (xs++(btI sb).map by8)) (v:=v') (own':=fun g=>own g∨v'.ownBlock=some g) (by simpa[z0i,Blk.says]using hf) hE
   (fun g hg=>by
     rcases hg with hg|hg
     ·exact zAx (hr.heap.lt g hg) hgrow.size
     ·exact(hown'.lt g hg).2)
   (fun q c hq hl hqd g hg=>by
     rw[z1l]at hq
     by_cases hqm:q=(0,ms)
     ·rw[zAz hqm]at hq;simp at hq;subst hq;cases hl
     ·rw[zAy hqm]at hq
      have hog:=(hr.heap.blk q c hq).block_lt hl hg
      have hne:(β (0,ms)).ownBlock≠some g:=fun e=>hr.heap.inj q (0,ms) c _ hq hlook hl rfl hqm g hg (by rw[hblk0];exact e)
      refine⟨hgrow.block g (hr.heap.lt g hog) fun e=>hne e.symm,.inl hog,fun _ e=>?_⟩
      rw[hblk]at e
      rcases hwhere with h|h
      ·rw[h]at e;exact hne e
      ·rw[h]at e;simp at e;have:=hr.heap.lt g hog;omega)
   (.row v' e' 1 _ _ (fun g hg=>.inr hg) hk0 (by rw[zAa,zA4,zdd];exact hown') hrow)
  refine⟨_,v',w',z4b β d v',_,?_,.inl rfl,?_,hE,z1p _ _ _⟩
  ·simp[execOp,resolve,invoke,builtin,hv,hyv,hrun]
  ·exact zD54
theorem zgr{t tu e:TypeId}{ti tui te:TI}[ht:z0n P t ti][hu:z0n P tu tui][he:z0n P e te]{x y:Operand}{ms:Nat}{sb:ByteArray}{q:List Int}(hev:St.evs ⟨n,tm,hp,up⟩ [x,y]=some [.ref (0,ms),S sb])(hb:look hp ms=some (.row e 1 (q.map by8)))
 (hk:ti.kind=.slice e) (hku:tui.kind=.str) (hs1:te.size=1) (hb1:te.bytes=1) (hz:(P.info? e).bind (·.zero)=some (Value.int .u8 0)) (hfr:(z0i d hp&&z0p d tm)=true) (hd:d<n) (hq:q.length+sb.size≤137438953472)
 (h:Ops P f R all l k ⟨n,(d,.ref (0,d))::tm,(d,.row e 1 ((q++btI sb).map by8))::(ms,.gone)::hp,up⟩) :
 Op1 P f R all ⟨some d,.call ⟨.builtin .append,#[x,y],#[t,tu]⟩,ty,pos,aft,gd⟩ l k ⟨n,tm,hp,up⟩:=by
 obtain⟨hx,hy,_⟩:=evE (xs:=[(x,.ref (0,ms)),(y,S sb)]) hev
 refine z09 (zeq (P:=P) (s:=⟨n,tm,hp,up⟩) (m:=(0,ms)) ht hu he hx hy hb rfl hk hku rfl rfl hs1 hb1 hz (by simpa using hq) hfr hd) ?_
 rw[List.map_append]at h;exact h
end Go.Ab
namespace Go.Ab
variable{P:Program}{f:FuncId}{R:z2y}{k:List Item}{all:Array Oper}{o:Oper}{l:List Oper}
variable{n:Nat}{tm:List (Nat × PV)}{hp:Hp}{up:Hf}{d:Nat}{ty:TypeId}{pos:String}{aft:Array Edge}{gd:Option (Nat × Bool)}{op:Op}{p:PV}
def z5w(P:Program)(g:FuncId)(args:List PV)(bs hs:List (Nm × Blk))(p:PV)(a b:Nat):Prop :=
 ∀H:Hf,(∀q∈bs,H q.1.1 q.1.2=some q.2)→H 0 a=some .gone→H 0 b=some .gone→Quiet H a→Quiet H b→z9f P g args H ⟨fun r H'=>r=.v p∧H'=z6j H hs,fun n=>n=(0,a)∨n=(0,b),none⟩
theorem z90{g:FuncId}{args:List PV}{bs hs:List (Nm × Blk)}{p:PV}{a b:Nat}(h:∀H:Hf,(∀q∈bs,H q.1.1 q.1.2=some q.2)→H 0 a=some .gone→H 0 b=some .gone→Quiet H a→Quiet H b→z9f P g args H ⟨fun r H'=>r=.v p∧H'=z6j H hs,fun n=>n=(0,a)∨n=(0,b),none⟩):z5w P g args bs hs p a b:=h
def y77(m1 m2:Nat)(hs:List (Nm × Blk)):Bool:=(hs.any fun q=>q.1 == (0,m1))&&(hs.any fun q=>q.1 == (0,m2))
theorem zhx{m:Nm}{z:Blk}:∀ {hs:List (Nm × Blk)} {H:Hf},(hs.any fun q=>q.1 == m)=true→z6j (upd H m z) hs=z6j H hs
 | [],H,h=>by simp at h
 | (x,b)::r,H,h=>by
  rw[z6j,z6j]
  by_cases e:x=m
  ·subst e;rw[z1m]
  ·rw[List.any_cons,zAu]at h
   rcases h with h|h
   ·simp at h;exact absurd h e
   ·rw[z8b (Ne.symm e),zhx h]
theorem zxt{m:Nat}:∀ {hp:Hp} {t:Nat} {b:Blk},z0i m hp=true→look hp t=some b→b.says (0,m)=false:=by
 intro hp
 induction hp with
 | nil=>intro t b _ h;simp[look]at h
 | cons q r ih =>
  obtain⟨kk,c⟩:=q
  intro t b hf h
  simp only[z0i,zA7,zA6]at hf
  simp only[look]at h
  split at h
  ·simp at h;subst h;simp_all
  ·exact ih (by simp_all) h
theorem zdl{m:Nat}:∀ {tm:List (Nat × PV)} {t:Nat} {q:PV},z0p m tm=true→look tm t=some q→q.says (0,m)=false:=by
 intro tm
 induction tm with
 | nil=>intro t b _ h;simp[look]at h
 | cons q r ih =>
  obtain⟨kk,c⟩:=q
  intro t b hf h
  simp only[z0p,zA7,zA6]at hf
  simp only[look]at h
  split at h
  ·simp at h;subst h;simp_all
  ·exact ih (by simp_all) h
theorem PR.re2{β β':Nm→Value}{w:World}{own:Nat→Prop}{m1 m2:Nat}(hβ:∀x,¬(x=(0,m1)∨x=(0,m2))→β' x=β x){q:PV}{v:Value}(h:PR β w own q v)(h1:q.says (0,m1)=false)(h2:q.says (0,m2)=false):PR β' w own q v:=by
 let γ:Nm→Value:=fun m=>if m=(0,m1)then β m else β' m
 have g1:∀q,q≠(0,m2)→γ q=β q:=fun q hq=>by
  by_cases e:q=(0,m1)
  ·simp[γ,e]
  ·simp only[γ,e,if_false]
   exact hβ q fun h=>h.elim e hq
 have g2:∀q,q≠(0,m1)→β' q=γ q:=fun q hq=>by simp[γ,hq]
 exact(h.reβ (0,m2) g1 h2).reβ (0,m1) g2 h1
theorem zdz{i:Nat}{s:St}{g:FuncId}{args:List Operand}{ps:List PV}{ats:Array TypeId}{bs hs:List (Nm × Blk)}{m1 m2:Nat}(ho:all[i]? =some ⟨some d,.call ⟨.value (.func g),args.toArray,ats⟩,ty,pos,aft,gd⟩)
 (hw:∀β own a w,Rep s β own a w→Region.wanted ⟨some d,.call ⟨.value (.func g),args.toArray,ats⟩,ty,pos,aft,gd⟩ (yielded all a.tmps)=true)
 (hev:s.evs args=some ps) (hsp:z5w P g ps bs hs p m1 m2) (hb:∀q∈bs,push s.hp s.up q.1.1 q.1.2=some q.2) (hbn:(bs.all fun q=>q.1 != (0,m1)&&q.1 != (0,m2))=true) (hm:m1≠m2)
 (hf1:(z0i m1 s.hp&&z0p m1 s.tm)=true) (hf2:(z0i m2 s.hp&&z0p m2 s.tm)=true) (hcov:y77 m1 m2 hs=true) (hd:d<s.n) :
 zyi P f R all k i s (s.app ⟨[],[],[],[(d,p)],hs⟩):=by
 intro is h β own a w hrep b hb' hk hn cs
 simp only[zA7]at hf1 hf2
 simp only[y77,zA7]at hcov
 rw[List.all_eq_true]at hbn
 have hr1:HR (upd (upd (push s.hp s.up) (0,m1) .gone) (0,m2) .gone) β own w:=(hrep.heap.drop (0,m1)).drop (0,m2)
 have hq:∀x,z0i x s.hp=true→Quiet (upd (upd (push s.hp s.up) (0,m1) .gone) (0,m2) .gone) x:=fun x hx=>Quiet.upd (Quiet.upd (fun t c hc=>zxt hx hc) rfl) rfl
 have hsp':=hsp (upd (upd (push s.hp s.up) (0,m1) .gone) (0,m2) .gone) (fun q hqb=>by
  have:=hbn q hqb
  simp only[zA7,bne_iff_ne,ne_eq]at this
  exact z08 (z08 (hb q hqb) fun e=>this.1 (Prod.ext e.1 e.2)) fun e=>this.2 (Prod.ext e.1 e.2)) (z08 (z1g _ (0,m1) _) (by simp[hm])) (z1g _ (0,m2) _) (hq m1 hf1.1) (hq m2 hf2.1)
 obtain⟨vals,hrun,hargs⟩:=z6m (first:=[]) (cap:=[]) (fo:=.func g) hrep rfl hev hsp'.plain (dst:=some d) (ats:=ats) (ty:=ty) (pos:=pos) (aft:=aft) (gd:=gd)
 obtain⟨e,w',fr,⟨v,r,H,own',β',rfl,⟨rfl,rfl⟩,hrv,hheap,hext,hβ⟩,hsteps,_,hleave⟩:=hsp'.run β own w vals hr1 (by simpa using hargs) (am b a (.inRegion all (i::is)::k)::cs)
 cases hrv with
 | v _ _ hpv =>
  have hr':Rep (s.setBs hs) β' own' a w':=by
   refine⟨?_,hrep.defers,fun t q hq=>?_,?_⟩
   ·rw[(z2t hs s).2.1];exact hrep.size
   ·rw[(z2t hs s).1]at hq
    exact((hrep.tm t q hq).mono hext).re2 hβ (zdl hf1.2 hq) (zdl hf2.2 hq)
   ·rw[zbg]
    rw[zhx hcov.2,zhx hcov.1]at hheap
    exact hheap
  have hr2:=hr'.put (dst:=some d) (p:=p) (v:=v) (by simp[St.fits,(z2t hs s).2.1,hd]) hpv
  have hout:z5p β'=z5p β:=funext fun m=>hβ _ (by simp)
  have hn':za6 R (z5p β') b:=by rw[hout];exact hn
  have:=h β' own' _ w' hr2 b hb' hk hn' cs
  rw[hout]at this
  exact(this.ext hext).of_steps (zlo ho (hw β own a w hrep) hrun hsteps hleave)
theorem y7l{id:Nat}{ops:List Oper}{s0:St}{done:List Eff}{g:FuncId}{args:List Operand}{ps:List PV}{ats:Array TypeId}{bs hs:List (Nm × Blk)}{m1 m2:Nat}{gr:List (Nat × PV)}{s':St}(hsp:z5w P g ps bs hs p m1 m2)(hg:GOK ops.toArray gd gr ⟨n,tm,hp,up⟩)(hev:St.evs ⟨n,tm,hp,up⟩ args=some ps)
 (hb:BkE ⟨n,tm,hp,up⟩ bs) (hbn:(bs.all fun q=>q.1 != (0,m1)&&q.1 != (0,m2))=true) (hm:m1≠m2) (hf1:(z0i m1 hp&&z0p m1 tm)=true) (hf2:(z0i m2 hp&&z0p m2 tm)=true) (hcov:y77 m1 m2 hs=true) (hd:d<n) (hs':St.app ⟨n,tm,hp,up⟩ ⟨[],[],[],[(d,p)],hs⟩=s')
 (h:Tr P f R id ops k s0 (done++[⟨gr++rd (args.zip ps),bs,[m1,m2],[(d,p)],hs⟩]) s' l):Tr P f R id ops k s0 done ⟨n,tm,hp,up⟩ (⟨some d,.call ⟨.value (.func g),args.toArray,ats⟩,ty,pos,aft,gd⟩::l):=by
 replace hb:=bkE hb
 obtain⟨hz1,hz2⟩:=z6l hev
 refine zg2 (e:=⟨gr++rd (args.zip ps),bs,[m1,m2],[(d,p)],hs⟩) (fun i hi s1 hn hs1=>?_) ⟨fun q hq=>?_,z6k hb,fun x hx=>by
  simp only[zAc,List.not_mem_nil,or_false]at hx
  rcases hx with rfl|rfl
  ·exact hf1
  ·exact hf2⟩ hs' h
 ·have hev1:s1.evs args=some ps:=hz2 s1 (z4v hz1 fun q hq=>hs1.ins q (by simp[hq]))
  exact zdz hi (fun β own a w hr=>hg.wanted (fun q hq=>hs1.ins q (by simp[hq])) rfl hr) hev1 hsp (fun q hq=>hs1.pre q hq) hbn hm (hs1.free m1 (by simp)) (hs1.free m2 (by simp)) hcov (by rw[hn];exact hd)
 ·exact zD138
theorem y8x{g:FuncId}{args:List Operand}{ps:List PV}{ats:Array TypeId}{bs hs:List (Nm × Blk)}{m1 m2:Nat}{s':St}(hsp:z5w P g ps bs hs p m1 m2)(hev:St.evs ⟨n,tm,hp,up⟩ args=some ps)
 (hb:BkE ⟨n,tm,hp,up⟩ bs) (hbn:(bs.all fun q=>q.1 != (0,m1)&&q.1 != (0,m2))=true) (hm:m1≠m2) (hf1:(z0i m1 hp&&z0p m1 tm)=true) (hf2:(z0i m2 hp&&z0p m2 tm)=true) (hcov:y77 m1 m2 hs=true) (hd:d<n) (hs':St.app ⟨n,tm,hp,up⟩ ⟨[],[],[],[(d,p)],hs⟩=s') (h:Ops P f R all l k s') :
 Op1 P f R all ⟨some d,.call ⟨.value (.func g),args.toArray,ats⟩,ty,pos,aft,none⟩ l k ⟨n,tm,hp,up⟩:=by
 intro i rest ho hrest
 have:=zdz (s:=⟨n,tm,hp,up⟩) (f:=f) (R:=R) (k:=k) (gd:=none) (pos:=pos) (aft:=aft) (ty:=ty) (ats:=ats) ho (fun _ _ _ _ _=>rfl) hev hsp (fun q hq=>z6k (bkE hb) q hq) hbn hm hf1 hf2 hcov hd rest
 intro β own a w hrep hw
 rw[hs']at this
 exact this (h rest hrest) β own a w hrep
section
variable{g:FuncId}{args:List Operand}{ps:List PV}{ats:Array TypeId}{bs:List (Nm × Blk)}{m1 m2 a0 a1 a2 a3 a4 a5:Nat}{x0 x1 x2 x3 x4 x5:Blk}
theorem z8w{e1 e2:TypeId}{k1 k2:Nat}{r1 r2:List (List D)}(hsp:z5w P g ps bs [((0,a0),x0),((0,a1),x1),((0,a2),x2),((0,m1),.row e1 k1 r1),((0,m2),.row e2 k2 r2),((0,a0),x5)] p m1 m2)(hev:St.evs ⟨n,tm,hp,up⟩ args=some ps)
 (hb:BkE ⟨n,tm,hp,up⟩ bs) (hbn:(bs.all fun q=>q.1 != (0,m1)&&q.1 != (0,m2))=true) (hm:m1≠m2) (hf1:(z0i m1 hp&&z0p m1 tm)=true) (hf2:(z0i m2 hp&&z0p m2 tm)=true) (hcov:y77 m1 m2 [((0,a0),x0),((0,a1),x1),((0,a2),x2),((0,m1),.row e1 k1 r1),((0,m2),.row e2 k2 r2),((0,a0),x5)]=true) (hd:d<n)
 (hl1:look ((a0,x5)::(m2,.row e2 k2 r2)::(m1,.row e1 k1 r1)::(a2,x2)::(a1,x1)::(a0,x0)::hp) m1=some (.row e1 k1 r1)) (hc1:(!(m1 == a1)&&!(Blk.row e1 k1 r1).says (0,a1))=true)
 (hl2:look ((a1,.row e1 k1 r1)::(m1,.gone)::zd5 m1 a1 ((a0,x5)::(m2,.row e2 k2 r2)::(m1,.row e1 k1 r1)::(a2,x2)::(a1,x1)::(a0,x0)::hp)) m2=some (.row e2 k2 r2)) (hc2:(!(m2 == a2)&&!(Blk.row e2 k2 r2).says (0,a2))=true)
 (h:Ops P f R all l k ⟨n,z9a m2 a2 (z9a m1 a1 ((d,p)::tm)),(a2,.row e2 k2 r2)::(m2,.gone)::zd5 m2 a2 ((a1,.row e1 k1 r1)::(m1,.gone)::zd5 m1 a1 ((a0,x5)::(m2,.row e2 k2 r2)::(m1,.row e1 k1 r1)::(a2,x2)::(a1,x1)::(a0,x0)::hp)),up⟩) :
 Op1 P f R all ⟨some d,.call ⟨.value (.func g),args.toArray,ats⟩,ty,pos,aft,none⟩ l k ⟨n,tm,hp,up⟩:=by
 refine y8x hsp hev hb hbn hm hf1 hf2 hcov hd rfl ?_
 refine zie m1 a1 (q:=.row e1 k1 r1) hl1 hc1 ?_
 exact zie m2 a2 (q:=.row e2 k2 r2) hl2 hc2 h
theorem y3z{id:Nat}{ops:List Oper}{s0:St}{done:List Eff}{gr:List (Nat × PV)}(hsp:z5w P g ps bs [((0,a0),x0),((0,a1),x1),((0,a2),x2),((0,a3),x3),((0,a4),x4),((0,a5),x5)] p m1 m2)(hg:GOK ops.toArray gd gr ⟨n,tm,hp,up⟩)(hev:St.evs ⟨n,tm,hp,up⟩ args=some ps)
 (hb:BkE ⟨n,tm,hp,up⟩ bs) (hbn:(bs.all fun q=>q.1 != (0,m1)&&q.1 != (0,m2))=true) (hm:m1≠m2) (hf1:(z0i m1 hp&&z0p m1 tm)=true) (hf2:(z0i m2 hp&&z0p m2 tm)=true) (hcov:y77 m1 m2 [((0,a0),x0),((0,a1),x1),((0,a2),x2),((0,a3),x3),((0,a4),x4),((0,a5),x5)]=true) (hd:d<n)
 (h:Tr P f R id ops k s0 (done++[⟨gr++rd (args.zip ps),bs,[m1,m2],[(d,p)],[((0,a0),x0),((0,a1),x1),((0,a2),x2),((0,a3),x3),((0,a4),x4),((0,a5),x5)]⟩]) ⟨n,(d,p)::tm,(a5,x5)::(a4,x4)::(a3,x3)::(a2,x2)::(a1,x1)::(a0,x0)::hp,up⟩ l):Tr P f R id ops k s0 done ⟨n,tm,hp,up⟩ (⟨some d,.call ⟨.value (.func g),args.toArray,ats⟩,ty,pos,aft,gd⟩::l) :=
 y7l hsp hg hev hb hbn hm hf1 hf2 hcov hd rfl h
theorem zky{id:Nat}{ops:List Oper}{s0:St}{done:List Eff}{gr:List (Nat × PV)}{b1 b2 b':Blk}(hsp:z0u P g ps [((0,m1),b1),((0,m2),b2)] [((0,m2),b')] p)(hg:GOK ops.toArray gd gr ⟨n,tm,hp,up⟩)(hev:St.evs ⟨n,tm,hp,up⟩ args=some ps)
 (h1:look hp m1=some b1) (h2:look hp m2=some b2) (hd:d<n) (h:Tr P f R id ops k s0 (done++[⟨gr++rd (args.zip ps),[((0,m1),b1),((0,m2),b2)],[],[(d,p)],[((0,m2),b')]⟩]) ⟨n,(d,p)::tm,(m2,b')::hp,up⟩ l) :
 Tr P f R id ops k s0 done ⟨n,tm,hp,up⟩ (⟨some d,.call ⟨.value (.func g),args.toArray,ats⟩,ty,pos,aft,gd⟩::l) :=
 zrr hsp hg hev (by simp[BkE,z3h,push,h1,h2]) hd rfl h
end
end Go.Ab
namespace Go.Ab
theorem z0a.at{P:Program}{g:FuncId}{args:List PV}{p:PV}(h:z0a P g args p)(H:Hf):Spec P g args H (fun r H'=>r=.v p∧H'=H):=h H
end Go.Ab
namespace Go.Ab
variable{P:Program}{f:FuncId}{R:z2y}{k:List Item}{n:Nat}{tm tm0:List (Nat × PV)}{hp hp0:Hp}{up up0:Hf}
end Go.Ab
namespace Go.Ab
open Go.ChangeShapes Go.WideShapes Go.ChangeAt Go.RowKit
variable{H:Type}{enc:TypeId × Value→H}{P:Program}
def ya3(P:Program)(G:List TypeId):Bool:=G.all fun t=>match P.underlying t with
 | some (.int .u8)=>false
 | _=>true
theorem Sh.ya3{G:List TypeId}{t:TypeId}{ds:List D}(h:Sh P t ds)(hG:zmq P G=true)(hN:Ab.ya3 P G=true)(ht:t∈G):∀x∈ds,∀z,x≠.lit (.int .u8 z):=by
 induction h with
 | int t k z hu h1 h2 =>
  intro x hx z' e
  simp only[zAq]at hx
  subst hx
  simp only[D.lit.injEq,Value.int.injEq]at e
  have:=List.all_eq_true.1 hN t ht
  rw[hu,e.1]at this
  simp at this
 | bool t b hu=>intro x hx z' e;simp only[zAq]at hx;subst hx;simp at e
 | str t s hu hs=>intro x hx z' e;simp only[zAq]at hx;subst hx;simp at e
 | slice t e' xs hu hl hx ih=>intro x hx z' e;simp only[zAq]at hx;subst hx;simp at e
 | struct t fs parts hu hl hp ih =>
  intro x hx z' e
  rw[List.mem_flatten]at hx
  obtain⟨p,hp1,hp2⟩:=hx
  obtain⟨i,hi⟩:=zAw hp1
  have hil:i<fs.length:=by have:=(zA1.1 hi).1;omega
  have hf:fs[i]? =some fs[i]:=zA0 hil
  have hg:=List.all_eq_true.1 hG t ht
  rw[hu]at hg
  simp only[zA7]at hg
  have hm:fs[i].type∈G:=List.contains_iff_mem.1 (List.all_eq_true.1 hg.1 fs[i] (by simp))
  exact ih i fs[i] p hf hi hm x hp2 z' e
theorem ya6{W:World}{own:Nat→Prop}(hsep:∀g o v,own g→W.cell? ⟨g,o,none⟩=some v→∃z,v=.int .u8 z){base:Nat}{sp:Nat→Bool}{held:Bool}{G:List TypeId}(hG:zmq P G=true)(hN:ya3 P G=true):∀(fuel:Nat) (t:TypeId) (cs:List Value) (x:DataW H × List MemPlace),t∈G→DataW.trod enc P W base sp held fuel t cs=some x →
 ∃ds,Sh P t ds∧CD W own ds cs:=by
 intro fuel
 induction fuel using Nat.strongRecOn with
 | _ fuel ih =>
 intro t cs x ht h
 have hg:=List.all_eq_true.1 hG t ht
 cases hu:P.underlying t with
 | none=>rw[hu]at hg;simp at hg
 | some u =>
  rw[hu]at hg
  cases u with
  | bool =>
   obtain⟨b,rfl,_⟩:=DataW.trod_bool hu h
   exact⟨_,.bool t b hu,.one (.lit _ rfl) rfl⟩
  | int k =>
   obtain⟨z,rfl,_,hw⟩:=DataW.trod_int hu h
   simp only[Lit.wf,zA7,zA3]at hw
   exact⟨_,.int t k z hu hw.1 hw.2,.one (.lit _ rfl) rfl⟩
  | string =>
   obtain⟨s,rfl,_,hs⟩:=DataW.trod_string hu h
   exact⟨_,.str t s hu hs,.one (.lit _ rfl) rfl⟩
  | slice e =>
   simp only[zA7,zA3]at hg
   obtain⟨he,hc0⟩:=hg
   have he:e∈G:=List.contains_iff_mem.1 he
   rcases DataW.trod_slice hu h with⟨rfl,_⟩|⟨a,len,cap,elems,rest,n,hfu,rfl,_,hb,hl,hm,hlen,hel,_⟩
   ·exact⟨_,.slice t e [] hu (by simp) (by simp),.one (.nil none 0) rfl⟩
   ·by_cases h0:len=0
    ·subst h0
     exact⟨_,.slice t e [] hu (by simp) (by simp),.one (.nil _ _) rfl⟩
    have each:∀i,i<len→∃cs':List Value,W.cells? base (a.add (i*P.cellsOf e)) (P.cellsOf e)=some cs'∧∃ds,Sh P e ds∧CD W own ds cs':=fun i hi=>by
     have h1:=hel i hi
     rw[zA0 (by omega)]at h1
     obtain⟨cs',h2,h3⟩:=Option.bind_eq_some_iff.1 h1
     exact⟨cs',h2,ih n (by omega) e cs' _ he h3⟩
    obtain⟨r,hr1,hr2⟩:=z92 (p:=fun i (_:Nat) (b:List D × List Value)=>W.cells? base (a.add (i*P.cellsOf e)) (P.cellsOf e)=some b.2∧Sh P e b.1∧CD W own b.1 b.2) (List.range len) 0 fun i q hq=>by
     have:i<len:=by have:=(zA1.1 hq).1;simpa using this
     obtain⟨cs',h2,ds,h3,h4⟩:=each i this
     exact⟨(ds,cs'),by simpa using h2,h3,h4⟩
    rw[List.length_range]at hr1
    have hr:∀(i:Nat) (b:List D × List Value),r[i]? =some b→W.cells? base (a.add (i*P.cellsOf e)) (P.cellsOf e)=some b.2∧Sh P e b.1∧CD W own b.1 b.2:=fun i b hb=>by
     have hi:i<len:=by have:=(zA1.1 hb).1;omega
     have:=hr2 i i b (List.getElem?_range hi) hb
     simpa using this
    obtain⟨g,o,spn⟩:=a
    obtain⟨b0,hb0⟩:∃b0,r[0]? =some b0:=⟨_,zA0 (by omega)⟩
    have hc:=(World.cells?_some (hr 0 b0 hb0).1).2.2 0 hc0
    have hlen0:=(World.cells?_some (hr 0 b0 hb0).1).2.1
    simp only[Nat.zero_mul,Addr.add,if_true,World.cell?]at hc
    rw[zA0 (by omega)]at hc
    have hg':g<W.heap.size:=by
     cases hq:W.heap[g]? with
     | none=>rw[hq]at hc;simp at hc
     | some q=>exact(Array.getElem?_eq_some_iff.1 hq).1
    have hsp:spn=none:=by
     cases spn with
     | none=>rfl
     | some q =>
      cases hq:W.heap[g]? with
      | none=>rw[hq]at hc;simp at hc
      | some b=>rw[hq]at hc;cases b <;> simp at hc
    subst hsp
    have hxl:(r.map (·.1)).length=len:=by simp[hr1]
    refine⟨[.slice (r.map (·.1))],.slice t e _ hu (by rw[hxl];omega) fun x hx=>?_,.one ?_ rfl⟩
    ·simp only[List.mem_map]at hx
     obtain⟨b,hb,rfl⟩:=hx
     obtain⟨i,hi⟩:=zAw hb
     exact(hr i b hi).2.1
    ·have:=DR.slice (w:=W) (own:=own) (r.map (·.1)) g o cap (P.cellsOf e) (fun i j=>((r.getD i ([],[])).2).getD j undef) (by rw[hxl];exact hl) (fun hown=>by
      have q:=hr 0 b0 hb0
      have q1:=(World.cells?_some q.1).2.2 0 hc0
      have q0:=(World.cells?_some q.1).2.1
      obtain⟨v0,hv0⟩:∃v0,b0.2[0]? =some v0:=⟨_,zA0 (by omega)⟩
      have hd0:0<b0.1.length:=by rw[q.2.2.1];omega
      obtain⟨x0,hx0⟩:∃x0,b0.1[0]? =some x0:=⟨_,zA0 hd0⟩
      have hdr:=q.2.2.2.2 0 x0 v0 hx0 hv0
      rw[hv0]at q1
      simp only[Nat.zero_mul,Addr.add]at q1
      obtain⟨z,rfl⟩:=hsep g _ v0 hown q1
      exact(q.2.1.ya3 hG hN he x0 (zA2 hx0) z) (by cases hdr with|lit _ _=>rfl)) hg'
      (by
        intro x hx
        simp only[List.mem_map]at hx
        obtain⟨b,hb,rfl⟩:=hx
        obtain⟨i,hi⟩:=zAw hb
        rw[(hr i b hi).2.2.1];exact(World.cells?_some (hr i b hi).1).2.1)
      (by
        intro i hi j hj
        rw[hxl]at hi
        obtain⟨b,hb⟩:∃b,r[i]? =some b:=⟨_,zA0 (by omega)⟩
        have hg1:r.getD i ([],[])=b:=by rw[List.getD,hb];rfl
        obtain⟨k1,k2,k3⟩:=hr i b hb
        obtain⟨_,q2,q3⟩:=World.cells?_some k1
        have:=q3 j hj
        rw[Go.Ab.z3q,Go.Ab.z3q,Nat.add_assoc]at this
        rw[hg1]
        obtain⟨v,hv⟩:∃v,b.2[j]? =some v:=⟨_,zA0 (by omega)⟩
        have hgv:b.2.getD j undef=v:=by rw[List.getD,hv];rfl
        rw[hgv]
        exact⟨this.trans hv,k3.2.1 v (zA2 hv)⟩)
      (by
        intro i x hx j y hy
        rw[zAd]at hx
        cases hb:r[i]? with
        | none=>rw[hb]at hx;simp at hx
        | some b =>
         rw[hb]at hx;simp at hx;subst hx
         have hg1:r.getD i ([],[])=b:=by rw[List.getD,hb];rfl
         obtain⟨k1,k2,k3⟩:=hr i b hb
         have hj:j<b.2.length:=by rw[←k3.1];exact(zA1.1 hy).1
         obtain⟨v,hv⟩:∃v,b.2[j]? =some v:=⟨_,zA0 hj⟩
         have hgv:b.2.getD j undef=v:=by rw[List.getD,hv];rfl
         rw[hg1,hgv]
         exact k3.2.2 j y v hy hv)
     rw[hxl]at this
     exact this
  | struct fs =>
   simp only[zA7,beq_iff_eq]at hg
   obtain⟨hfs,hlay⟩:=hg
   obtain⟨xs,n,hfu,_,hcl,hxl,hf⟩:=DataW.trod_struct hu h
   obtain⟨r,hr1,hr2⟩:=z92 (p:=fun i (f:Field) (b:List D)=>Sh P f.type b∧CD W own b ((cs.drop f.offset).take (P.cellsOf f.type))) fs.toList 0 fun i f hif=>by
    have h1:=hf i f (by simpa using hif)
    have hi:i<fs.size:=by have:=(zA1.1 hif).1;simpa using this
    rw[zA0 (by omega)]at h1
    have hfg:f.type∈G:=List.contains_iff_mem.1 (List.all_eq_true.1 hfs f (zA2 hif))
    obtain⟨ds,h2,h3⟩:=ih n (by omega) f.type _ _ hfg h1
    exact⟨ds,h2,h3⟩
   obtain⟨e1,_⟩:=zv7 cs fs.toList 0 _ hlay (by omega)
   rw[List.drop_zero,Nat.sub_zero,←hcl,List.take_length]at e1
   refine⟨r.flatten,.struct t fs.toList r (by simpa using hu) hr1 fun i f x h1 h2=>(hr2 i f x h1 h2).1,?_⟩
   rw[←e1]
   refine zuq r _ (by simp[hr1]) fun i a b ha hb=>?_
   rw[zAd]at hb
   cases hif:fs.toList[i]? with
   | none=>rw[hif]at hb;simp at hb
   | some f=>rw[hif]at hb;simp at hb;subst hb;exact(hr2 i f a hif ha).2
  | _=>simp at hg
theorem zoh{W:World}{own:Nat→Prop}(hsep:∀g o v,own g→W.cell? ⟨g,o,none⟩=some v→∃z,v=.int .u8 z){t:TypeId}{v:Value}{d:DataW H}{p:List MemPlace}{r:Reach}{b0:Nat}{G:List TypeId}(hG:zmq P G=true)(hN:ya3 P G=true)(ht:G.contains t=true)(hval:Value.okWide P W r b0 t v)
 (h:DataW.Trod enc P W 0 (fun _=>true) true t v d p):∃ds,Sh P t ds∧((∃fs,P.underlying t=some (.struct fs))→DR W own (.agg ds) v)∧(∀x,ds=[x]→(∀fs,P.underlying t≠some (.struct fs))→DR W own x v):=by
 obtain⟨fuel,h⟩:=h
 obtain⟨ds,h1,h2⟩:=ya6 hsep hG hN fuel t _ _ (List.contains_iff_mem.1 ht) h
 refine⟨ds,h1,fun⟨fs,hs⟩=>?_,fun x hx hn=>?_⟩
 ·obtain⟨cs,rfl,_⟩:=okWide_struct hs hval
  simp only[Value.cells]at h2
  have:=DR.agg ds cs.toList h2.1 h2.2.1 h2.2.2
  simpa using this
 ·subst hx
  have hc:v.cells.toList=[v]:=by
   have hg:=List.all_eq_true.1 hG t (List.contains_iff_mem.1 ht)
   cases hu:P.underlying t with
   | none=>rw[hu]at hg;simp at hg
   | some u =>
    rw[hu]at hg
    cases u with
    | bool=>obtain⟨b,rfl⟩:=okWide_bool hu hval;rfl
    | int k=>obtain⟨b,rfl⟩:=okWide_int hu hval;rfl
    | string=>obtain⟨b,rfl⟩:=okWide_string hu hval;rfl
    | slice e=>obtain⟨a,l,c,rfl⟩:=okWide_slice hu hval;rfl
    | struct fs=>exact absurd hu (hn fs)
    | _=>simp at hg
  rw[hc]at h2
  exact h2.2.2 0 x v rfl rfl
end Go.Ab
namespace Go.Ab
open Go.MapKept
structure zir{α:Type}[DecidableEq α](P:Program)(kt:TypeId)(g:α→Value):Prop where
 check:∀w e a,(Instr.checkKey e 10000 kt (g a)).run P w=.ok () w
 find:∀w a (q:List (α × D)) (l:List MapEntry),q.length=l.length→(∀(j:Nat) (x:α × D) (m:MapEntry),q[j]? =some x→l[j]? =some m→m.key=g x.1) →
  ((∀x∈q,x.1≠a)∧(Instr.findKey kt (g a) l).run P w=.ok none w) ∨
  ∃(j:Nat) (x:α × D) (m:MapEntry),q[j]? =some x∧l[j]? =some m∧x.1=a∧(∀i'<j,∀y,q[i']? =some y→y.1≠a)∧(Instr.findKey kt (g a) l).run P w=.ok (some (j,m.val)) w
 stays:∀w a,(Instr.keyThatStays (g a) (g a)).run P w=.ok (g a) w
theorem y1z.gen{α:Type}[DecidableEq α]{P:Program}{kt:TypeId}{kd:TypeDesc}{g:α→Value}(hk:y1z kd g)(hkt:P.underlying kt=some kd):zir P kt g where
 check w e a:=run_checkKey hkt (hk.key a) e 9999
 find w a q l hl h:=by
  rcases zai hk a q l 0 hl h with⟨h1,h2⟩|⟨j,x,m,h1,h2,h3,h4,h5⟩
  ·exact .inl ⟨h1,run_findKey hkt h2⟩
  ·rw[Nat.zero_add]at h5
   exact .inr ⟨j,x,m,h1,h2,h3,h4,run_findKey hkt h5⟩
 stays w a:=run_keyThatStays (hk.key a)
theorem zbs{α:Type}[DecidableEq α]{P:Program}{kt:TypeId}{g:α→Value}(he:∀w a b,(Op.equal kt (g a) (g b)).run P w=.ok (decide (a=b)) w)(w:World)(a:α):∀(q:List (α × D)) (l:List MapEntry) (i:Nat),q.length=l.length →
 (∀(j:Nat) (x:α × D) (m:MapEntry),q[j]? =some x→l[j]? =some m→m.key=g x.1) →
 ((∀x∈q,x.1≠a)∧(Instr.findAsking kt (g a) l i).run P w=.ok none w) ∨
 ∃(j:Nat) (x:α × D) (m:MapEntry),q[j]? =some x∧l[j]? =some m∧x.1=a∧(∀i'<j,∀y,q[i']? =some y→y.1≠a)∧(Instr.findAsking kt (g a) l i).run P w=.ok (some (i+j,m.val)) w
 | [],[],i,_,_=>.inl ⟨by simp,by simp[Instr.findAsking]⟩
 | [],_::_,i,h,_=>by simp at h
 | _::_,[],i,h,_=>by simp at h
 | x::q,m::l,i,hl,h=>by
  have hm:=h 0 x m rfl rfl
  have hr:=he w a x.1
  rw[←hm]at hr
  by_cases e:a=x.1
  ·refine .inr ⟨0,x,m,rfl,rfl,e.symm,fun i' hi'=>by omega,?_⟩
   rw[zAi e]at hr
   simp[Instr.findAsking,hr,Result.andThen]
  ·rw[zAo e]at hr
   rcases zbs he w a q l (i+1) (by simpa using hl) (fun j y z hy hz=>h (j+1) y z (by simpa using hy) (by simpa using hz))with⟨h1,h2⟩|⟨j,y,z,h1,h2,h3,h4,h5⟩
   ·refine .inl ⟨by simpa[Ne.symm e]using h1,?_⟩
    simp[Instr.findAsking,hr,h2,Result.andThen]
   ·refine .inr ⟨j+1,y,z,by simpa using h1,by simpa using h2,h3,fun i' hi' w' hw'=>?_,?_⟩
    ·cases i' with
     | zero=>simp at hw';subst hw';exact Ne.symm e
     | succ i'=>exact h4 i' (by omega) w' (by simpa using hw')
    ·simp[Instr.findAsking,hr,h5,Result.andThen];omega
theorem zir.of_eq{α:Type}[DecidableEq α]{P:Program}{kt:TypeId}{g:α→Value}(hw:(match P.underlying kt with|some (.array _ _)|some (.struct _)=>true|_=>false)=true)(hc:∀w e a,(Instr.checkKey e 10000 kt (g a)).run P w=.ok () w)
 (he:∀w a b,(Op.equal kt (g a) (g b)).run P w=.ok (decide (a=b)) w) (hs:∀a,Instr.sameBits 10000 (g a) (g a)=true):zir P kt g where
 check:=hc
 find w a q l hl h:=by
  rcases zbs he w a q l 0 hl h with⟨h1,h2⟩|⟨j,x,m,h1,h2,h3,h4,h5⟩
  ·exact .inl ⟨h1,by rw[run_findKey_eq w hw];exact h2⟩
  ·rw[Nat.zero_add]at h5
   exact .inr ⟨j,x,m,h1,h2,h3,h4,by rw[run_findKey_eq w hw];exact h5⟩
 stays w a:=by simp[Instr.keyThatStays,hs]
theorem ydb{β:Nm→Value}{w:World}{own:Nat→Prop}{p q:PV}{u v:Value}(h1:PR β w own p u)(h2:PR β w own q v):PR β w own (.tup [p,q]) (.tuple #[u,v]) :=
 .tup [p,q] [u,v] rfl fun j x y hx hy=>by
  match j with
  | 0=>simp at hx hy;subst hx;subst hy;exact h1
  | 1=>simp at hx hy;subst hx;subst hy;exact h2
  | j+2=>simp at hx
theorem ziw{xs:List Value}:∀β w own u,PR β w own (.d (.agg (xs.map .lit))) u→u=.agg xs.toArray:=fun β w own u h=>by
 cases h with
 | d _ _ h =>
  cases h with
  | agg cs vs hl h1 hd=>rw[DR.lits (w:=w) (own:=own) (.agg _ vs hl h1 hd)]
variable{P:Program}{f:FuncId}{R:z2y}{k:List Item}{all:Array Oper}{o:Oper}{l:List Oper}
variable{n:Nat}{tm:List (Nat × PV)}{hp:Hp}{up:Hf}{d:Nat}{ty:TypeId}{pos:String}{aft:Array Edge}{gd:Option (Nat × Bool)}{op:Op}{p:PV}
variable{α:Type}[DecidableEq α]{g:α→Value}{q:List (α × D)}{x y z:Operand}{t kt et:TypeId}{ti:TI}{a:α}{v:D}
theorem zfe{s:St}{ms:Nat}{a:α}{v:D}{insert:Bool}(hm:P.underlying t=some (.map kt et))(hk:zir P kt g)(hx:s.ev x=some (.ref (0,ms))){py:PV}(hy:s.ev y=some py)(hpy:∀β w own v,PR β w own py v→v=g a)(hz:s.ev z=some (.d v))(hok:y68 v=true)
 (hb:look s.hp ms=some (.mp (q.map fun p=>(g p.1,p.2)))) :
 z0y P ⟨none,if insert then .insert t x y z else .mapUpdate t x y z,ty,pos,aft,gd⟩ s (s.setB (0,ms) (.mp ((z9h q a v).map fun p=>(g p.1,p.2)))):=by
 intro β own ac w hr
 have hlook:z0d (push s.hp s.up) (0,ms)=some (.mp (q.map fun p=>(g p.1,p.2))):=hb
 obtain⟨r,clock,cur,hβ,ho,hg,hl,hd,hbn,hc⟩:=hr.mp hlook
 have ex:=hr.ev hx
 have ey:=hpy _ _ _ _ (hr.ev hy)
 have ez:=hr.ev hz
 generalize hzv:ac.eval z=zv at ez
 have hz1:zv.oneCell'=true∧DR w own v zv:=by
  exact zD109
 have ex':ac.eval x=.map (some r):=by
  exact zD72
 have hlt:r<w.heap.size:=hr.heap.lt r ho
 have hkeys:∀(j:Nat) (x:α × D) (m:MapEntry),q[j]? =some x→cur[j]? =some m→m.key=g x.1:=fun j x m h1 h2=>(hd j (g x.1,x.2) m (by rw[zAd,h1];rfl) h2).1
 have hlen:q.length=cur.length:=by simpa using hl
 -- the entries behind the call
 obtain⟨cur',clock',hrun,hl',hd',hbn',hc'⟩:∃(cur':List MapEntry) (clock':Nat),(Instr.mapUpdate t (.map (some r)) (g a) zv).run P w=.ok () { w with heap:=w.heap.setIfInBounds r (.map cur'.toArray clock') } ∧
  (z9h q a v).length=cur'.length∧(∀(j:Nat) (x:α × D) (m:MapEntry),(z9h q a v)[j]? =some x→cur'[j]? =some m→m.key=g x.1∧m.val.oneCell'=true∧DR w own x.2 m.val)∧(cur'.map (·.born)).Pairwise (· <·)∧∀m∈cur',m.born<clock':=by
  rcases hk.find w a q cur hlen hkeys with⟨h1,h2⟩|⟨j,xq,m,h1,h2,h3,h4,h5⟩
  ·refine⟨cur++[{ key:=g a,val:=zv,born:=clock }],clock+1,?_,by rw[z8h q a v h1];simp[hlen],?_,?_,?_⟩
   ·simp[Instr.mapUpdate,run_underlying hm,Go.MapKept.run_getObj_map hg,hk.check w,h2,run_setObj_map _ hg,Result.andThen]
   ·exact zD27
   ·exact zD93
   ·exact zD112
  ·have hjl:=(zA1.1 h2).1
   have hmk:m.key=g a:=by rw[hkeys j xq m h1 h2,h3]
   have hset:z9h q a v=q.set j (a,v):=zht q a v j xq h1 h3 h4
   refine⟨cur.set j { m with key:=g a,val:=zv },clock,?_,by rw[hset];simp[hlen],?_,?_,?_⟩
   ·have hkk:((cur[j]?).map (·.key)).getD (g a)=g a:=by simp[h2,hmk]
    have hmod:cur.modify j (fun e=>{ key:=g a,val:=zv,born:=e.born })=cur.set j { m with key:=g a,val:=zv }:=by
     exact zD71
    simp[Instr.mapUpdate,run_underlying hm,Go.MapKept.run_getObj_map hg,hk.check w,h5,run_setObj_map _ hg,Result.andThen,hkk,hk.stays w a,hmod]
   ·exact zD37
   ·exact zD45
   ·exact zD101
 -- the world behind the call
 exact zD11
theorem z2a{ms:Nat}{z0:Value}{bb:Bool}{y':D}(hm:P.underlying t=some (.map kt et))(hk:zir P kt g)(hz0:∀w,(zeroValue et).run P w=.ok z0 w)(h1:z0.oneCell'=true)
 (hx:St.ev ⟨n,tm,hp,up⟩ x=some (.ref (0,ms))) {py:PV} (hy:St.ev ⟨n,tm,hp,up⟩ y=some py) (hpy:∀β w own v,PR β w own py v→v=g a)
 (hb:look hp ms=some (.mp (q.map fun p=>(g p.1,p.2)))) (hr:(z5t q a).getD (.lit z0)=y') (hbb:(z5t q a).isSome=bb) (hd:d<n) :
 z0y P ⟨some d,.lookup t x y true,ty,pos,aft,gd⟩ ⟨n,tm,hp,up⟩ ⟨n,(d,.tup [.d y',B bb])::tm,hp,up⟩:=by
 refine z0k rfl hd fun β own ac w hrep=>?_
 have hlook:z0d (push hp up) (0,ms)=some (.mp (q.map fun p=>(g p.1,p.2))):=hb
 obtain⟨r,clock,cur,hβ,ho,hg,hl,hdd,hbn,hc⟩:=hrep.mp hlook
 have ex:=hrep.ev hx
 have ey:=hpy _ _ _ _ (hrep.ev hy)
 have ex':ac.eval x=.map (some r):=by
  exact zD72
 have hkeys:∀(j:Nat) (x:α × D) (m:MapEntry),q[j]? =some x→cur[j]? =some m→m.key=g x.1:=fun j x m h1 h2=>(hdd j (g x.1,x.2) m (by rw[zAd,h1];rfl) h2).1
 have hlen:q.length=cur.length:=by simpa using hl
 rcases hk.find w a q cur hlen hkeys with⟨h1',h2⟩|⟨j,xq,m,h1',h2,h3,h4,h5⟩
 ·refine⟨.tuple #[z0,.bool false],?_,?_⟩
  ·exact zD146
  ·rw[zag q a h1']at hr
   subst hr
   rw[zag q a h1']at hbb
   subst hbb
   exact ydb (.d _ _ (.lit _ h1)) (.d _ _ (.lit _ rfl))
 ·refine⟨.tuple #[m.val,.bool true],?_,?_⟩
  ·simp[execOp,ex',ey,Instr.lookup,run_underlying hm,Go.MapKept.run_getObj_map hg,hk.check w,h5,Result.andThen]
  ·rw[z9s q a j xq h1' h3 h4]at hr
   subst hr
   rw[z9s q a j xq h1' h3 h4]at hbb
   subst hbb
   exact ydb (.d _ _ (hdd j (g xq.1,xq.2) m (by rw[zAd,h1'];rfl) h2).2.2) (.d _ _ (.lit _ rfl))
theorem zys{m0:Nm}{es:List (Value × D)}(h:z3h ⟨n,tm,hp,up⟩ m0=some (.mp es)):z0d (push hp up) m0=some (.mp es):=by
 obtain⟨e,t⟩:=m0
 cases e with
 | zero=>exact h
 | succ e =>
  have h1:push hp up (e+1) t=some (.mp es):=h
  simp only[z0d,h1,Option.map_some,Blk.lift]
theorem zwb{m0:Nm}{z0:Value}{y':D}(hm:P.underlying t=some (.map kt et))(hk:zir P kt g)(hz0:∀w,(zeroValue et).run P w=.ok z0 w)(h1:z0.oneCell'=true)
 (hx:St.ev ⟨n,tm,hp,up⟩ x=some (.ref m0)) {py:PV} (hy:St.ev ⟨n,tm,hp,up⟩ y=some py) (hpy:∀β w own v,PR β w own py v→v=g a)
 (hb:z3h ⟨n,tm,hp,up⟩ m0=some (.mp (q.map fun p=>(g p.1,p.2)))) (hr:(z5t q a).getD (.lit z0)=y') (hd:d<n) :
 z0y P ⟨some d,.lookup t x y false,ty,pos,aft,gd⟩ ⟨n,tm,hp,up⟩ ⟨n,(d,.d y')::tm,hp,up⟩:=by
 refine z0k rfl hd fun β own ac w hrep=>?_
 have hlook:z0d (push hp up) m0=some (.mp (q.map fun p=>(g p.1,p.2))):=zys hb
 obtain⟨r,clock,cur,hβ,ho,hg,hl,hdd,hbn,hc⟩:=hrep.mp hlook
 have ex:=hrep.ev hx
 have ey:=hpy _ _ _ _ (hrep.ev hy)
 have ex':ac.eval x=.map (some r):=by
  exact zD72
 have hkeys:∀(j:Nat) (x:α × D) (m:MapEntry),q[j]? =some x→cur[j]? =some m→m.key=g x.1:=fun j x m h1 h2=>(hdd j (g x.1,x.2) m (by rw[zAd,h1];rfl) h2).1
 have hlen:q.length=cur.length:=by simpa using hl
 rcases hk.find w a q cur hlen hkeys with⟨h1',h2⟩|⟨j,xq,m,h1',h2,h3,h4,h5⟩
 ·refine⟨z0,?_,?_⟩
  ·exact zD146
  ·rw[zag q a h1']at hr
   subst hr
   exact .d _ _ (.lit _ h1)
 ·refine⟨m.val,?_,?_⟩
  ·simp[execOp,ex',ey,Instr.lookup,run_underlying hm,Go.MapKept.run_getObj_map hg,hk.check w,h5,Result.andThen]
  ·exact zD127
theorem z5n{ms:Nat}{py:PV}(hm:P.underlying t=some (.map kt et))(hk:zir P kt g)(hx:St.ev ⟨n,tm,hp,up⟩ x=some (.ref (0,ms)))(hy:St.ev ⟨n,tm,hp,up⟩ y=some py)(hpy:∀β w own v,PR β w own py v→v=g a)(hz:St.ev ⟨n,tm,hp,up⟩ z=some (.d v))(hok:y68 v=true)
 (hb:look hp ms=some (.mp (q.map fun p=>(g p.1,p.2)))) (h:Ops P f R all l k ⟨n,tm,(ms,.mp ((z9h q a v).map fun p=>(g p.1,p.2)))::hp,up⟩) :
 Op1 P f R all ⟨none,.mapUpdate t x y z,ty,pos,aft,gd⟩ l k ⟨n,tm,hp,up⟩:=z09 (zfe (insert:=false) hm hk hx hy hpy hz hok hb) h
theorem zmi{ms:Nat}{py:PV}(hm:P.underlying t=some (.map kt et))(hk:zir P kt g)(hx:St.ev ⟨n,tm,hp,up⟩ x=some (.ref (0,ms)))(hy:St.ev ⟨n,tm,hp,up⟩ y=some py)(hpy:∀β w own v,PR β w own py v→v=g a)(hz:St.ev ⟨n,tm,hp,up⟩ z=some (.d v))(hok:y68 v=true)
 (hb:look hp ms=some (.mp (q.map fun p=>(g p.1,p.2)))) (h:Ops P f R all l k ⟨n,tm,(ms,.mp ((z9h q a v).map fun p=>(g p.1,p.2)))::hp,up⟩) :
 Op1 P f R all ⟨none,.insert t x y z,ty,pos,aft,gd⟩ l k ⟨n,tm,hp,up⟩:=z09 (zfe (insert:=true) hm hk hx hy hpy hz hok hb) h
end Go.Ab
namespace Go.Ab
variable{P:Program}{f:FuncId}{R:z2y}{k:List Item}{all:Array Oper}{l:List Oper}
variable{n:Nat}{tm:List (Nat × PV)}{hp:Hp}{up:Hf}{d:Nat}{ty:TypeId}{pos:String}{aft:Array Edge}{gd:Option (Nat × Bool)}{p:PV}
variable{t e e':TypeId}{ti te:TI}{x y:Operand}{kk':IntKind}{a:Int}{m:Nm}{kk lo len:Nat}{ys:List (List D)}
theorem zhy [ht:z0n P t ti](hk:ti.kind=.slice e):Val P (.call ⟨.builtin .len,#[x],#[t]⟩) ty [(x,.rsub m kk lo len)] [] (I .i64 len):=fun d pos aft gd n tm hp up hd hx hb =>
 z0k rfl hd fun β own ac w hr=>by
  have hxv:=hr.ev hx.1
  generalize hv':ac.eval x=v at hxv
  cases hxv with
  | rsub _ _ _ _ L cap ad hβ hL hc =>
   exact⟨.int .i64 len,by simp[execOp,resolve,invoke,builtin,Builtin.len_,run_underlying (ht.slice hk),hv',goInt,Result.andThen],.I _ _⟩
theorem za5 [ht:z0n P t ti][he:z0n P e te](hk:ti.kind=.slice e)(h0:0≤a)(h1:a<len)(hl:lo+len≤ys.length)(hkk:te.size=kk):Val P (.indexAddr t x y) ty [(x,.rsub m kk lo len),(y,I kk' a)] [(m,.row e' kk ys)] (.rptr m kk (lo+a.toNat) 0):=fun d pos aft gd n tm hp up hd hx hb =>
 z0k rfl hd fun β own ac w hr=>by
  obtain⟨vs,ho,hk0,hown,hrr⟩:=hr.row ((z2g hb.1).trans (by rw[z4k]))
  obtain⟨y0,hy0⟩:∃y0,ys[lo+a.toNat]? =some y0:=⟨_,zA0 (by omega)⟩
  obtain⟨g,cap,cur,hv,hg,htake,hcell⟩:=hrr.one hown hy0
  have hxv:=hr.ev hx.1
  generalize hv':ac.eval x=v at hxv
  cases hxv with
  | rsub _ _ _ _ L cap2 ad hβ hL hc =>
   rw[hv]at hβ
   simp at hβ
   obtain⟨rfl,rfl,rfl⟩:=hβ
   refine⟨.pointer (some ⟨g,(lo+a.toNat)*kk+0,none⟩),?_,.rptr m kk (lo+a.toNat) 0 g _ cap hv⟩
   have hne:cap≠lo:=by omega
   simp only[execOp,hv',(hr.ev hx.2.1).lit]
   simp[Instr.indexAt,asIntOf,run_underlying (ht.slice hk),h0,h1,he.sizeOf,z3q,hkk,hne,Nat.add_mul]
theorem y0b{v:Value}:∀len:Nat,(Builtin.zeroCells #[v] len).toList=List.replicate len v:=fun len=>by
 unfold Builtin.zeroCells
 simp only[List.size_toArray,zAk,List.length_nil,Array.toList_ofFn]
 apply List.ext_getElem
 ·simp
 ·intro i h1 h2;simp[Nat.mod_one]
theorem zqs{s:St}{z0:Value}(ht:z0n P t ti)(hk:ti.kind=.slice e)(hz0:∀w,(zeroValue e).run P w=.ok z0 w)(h1:z0.oneCell'=true)(hx:s.ev x=some (.rsub m 1 lo len))(hb:z3h s m=some (.row e' 1 ys))(hlo:lo+len≤ys.length)(hm:m.1=0) :
 z0y P ⟨none,.call ⟨.builtin .clear,#[x],#[t]⟩,ty,pos,aft,gd⟩ s (s.setB m (.row e' 1 (z0g ys lo (List.replicate len [.lit z0])))):=by
 obtain⟨n,tm,hp,up⟩:=s
 obtain⟨md,ms⟩:=m
 simp only at hm
 subst hm
 intro β own a w hr
 have hlk:=(z2g hb).trans (by rw[z4k])
 obtain⟨vs,ho,hk0,hown,hrr⟩:=hr.row hlk
 have hxv:=hr.ev hx
 generalize hv':a.eval x=v at hxv
 cases hxv with
 | rsub _ _ _ _ L cap ad0 hβ hL hcap =>
 have hcel:z0.cells=#[z0]:=by cases z0 <;> simp_all [Value.cells,Value.oneCell']
 by_cases hz0':len=0
 ·subst hz0'
  have e1:z0g ys lo ([]:List (List D))=ys:=by cases ys <;> simp[Ab.z0g]
  have hrun:(Builtin.clear_ #[t] ty #[.slice (if cap=lo then ad0 else ad0.map (·.add (lo*1))) 0 (cap-lo)]).run P w=.ok (.tuple #[]) w:=by
   generalize (if cap=lo then ad0 else ad0.map (·.add (lo*1)))=q
   cases q <;> simp[Builtin.clear_,run_underlying (ht.slice hk)]
  rw[Nat.mul_one]at hv' hrun
  refine⟨_,.tuple #[],w,β,own,by simp[execOp,resolve,invoke,builtin,hv',hrun,Result.andThen],.inl rfl,?_,Ext.refl _ _,rfl⟩
  rw[List.replicate_zero,e1]
  have e2:push ((ms,.row e' 1 ys)::hp) up=upd (push hp up) (0,ms) (.row e' 1 ys):=by rw[←z1y ⟨n,tm,hp,up⟩ (0,ms)];rfl
  exact⟨hr.size,hr.defers,hr.tm,by rw[show(St.setB ⟨n,tm,hp,up⟩ (0,ms) (.row e' 1 ys)).hp=(ms,.row e' 1 ys)::hp from rfl,show(St.setB ⟨n,tm,hp,up⟩ (0,ms) (.row e' 1 ys)).up=up from rfl,e2,zbt (by exact hb)];exact hr.heap⟩
 ·rcases hown.2 with⟨h1',h2⟩|⟨g,cap2,cur,hv2,_,hg,hle,hmx,hcs,htake⟩
  ·omega
  ·rw[hβ]at hv2
   simp at hv2
   obtain⟨rfl,hLy,rfl⟩:=hv2
   have hne:cap≠lo:=by omega
   have hvl:vs.length=ys.length*1:=hrr.2.1
   have hus1:∀u∈List.replicate len z0,u.oneCell'=true:=fun u hu=>by rw[List.eq_of_mem_replicate hu];exact h1
   have hfit:lo*1+(List.replicate len z0).length≤cur.size:=by
    rw[zAr,hcs];omega
   have hst:=run_storeCells_at P g (lo*1) e' (List.replicate len z0) 0 cur w hg (by simpa using hfit) hus1
   have hadd:(⟨g,0,none⟩:Addr).add (lo*1)=⟨g,lo*1,none⟩:=by rw[z3q];simp
   have hrz:z96 w own 1 (List.replicate len [.lit z0]) (List.replicate len z0):=by
    refine⟨fun x hx=>by rw[List.eq_of_mem_replicate hx];rfl,by simp,hus1,fun i x hi j y hj=>?_⟩
    rw[List.getElem?_replicate]at hi
    split at hi
    ·rename_i hil
     simp at hi;subst hi
     cases j with
     | succ j=>simp at hj
     | zero =>
      simp at hj;subst hj
      exact⟨z0,by rw[List.getElem?_replicate,zAz (by omega)],.lit _ h1⟩
    ·cases hi
   have hrun:(Builtin.clear_ #[t] ty #[.slice (if cap=lo then some ⟨g,0,none⟩else(some (⟨g,0,none⟩:Addr)).map (·.add (lo*1))) len (cap-lo)]).run P w=.ok (.tuple #[]) (w.setRow g (z0g cur.toList (lo*1) (List.replicate len z0)).toArray):=by
    rw[ze9 _ _ _ (by simpa using hfit)]
    simp only[Nat.add_zero]at hst
    obtain⟨len',rfl⟩:∃q,len=q+1:=⟨len-1,by omega⟩
    rw[Nat.mul_one]at *
    simp[Builtin.clear_,run_underlying (ht.slice hk),hne,hadd,hz0,hcel,y0b,hst,Result.andThen]
   have hog:own g:=ho g (by rw[hβ];rfl)
   have hE:Ext w own (w.setRow g (z0g cur.toList (lo*1) (List.replicate len z0)).toArray) own :=
    ⟨rfl,rfl,rfl,by simp,fun b hb ho=>setRow_other w g b _ fun e=>ho (e▸hog),fun b hb ho=>ho⟩
   have hrow:=(hrr.z0g hrz (a:=lo) (by rw[zAr];omega)).mono hE
   have hvf:lo*1+(List.replicate len z0).length≤vs.length:=by rw[hvl,zAr];omega
   have htl:vs.length=min (ys.length*1) cur.size:=by rw[←htake,zAm];simp
   have hbr:BR β (w.setRow g (z0g cur.toList (lo*1) (List.replicate len z0)).toArray) own (β (0,ms)) (atF (0,ms) (.row e' 1 (z0g ys lo (List.replicate len [.lit z0])))):=by
    rw[z4k]
    refine .row _ e' 1 _ (z0g vs (lo*1) (List.replicate len z0)) ho hk0 ⟨by rw[z0m,z0m];exact hvl,.inr ⟨g,cap,_,by rw[z0m,hβ,hLy],zAf _,setRow_heap w g cur _ e' _ hg,by rw[z0m];exact hle,hmx,by simp[z0m,hcs],?_⟩⟩ hrow
    rw[z0m]
    simp only[List.toList_toArray]
    rw[z71 _ _ _ _ (by omega) (by simp at *;omega),htake]
   have hheap:=hr.heap.change (raw:=.row e' 1 (z0g ys lo (List.replicate len [.lit z0]))) hlk rfl hE (by simp) (fun g' hg'=>setRow_other w g g' _ fun e=>hg' (by rw[hβ,e];rfl)) hbr
   refine⟨_,.tuple #[],_,β,own,by simp only[Option.map_some,Nat.mul_one]at hrun hv'⊢;simp[execOp,resolve,invoke,builtin,hv',hrun,Result.andThen],.inl rfl,?_,hE,rfl⟩
   have e2:push ((ms,.row e' 1 (z0g ys lo (List.replicate len [.lit z0])))::hp) up=upd (push hp up) (0,ms) (.row e' 1 (z0g ys lo (List.replicate len [.lit z0]))):=by rw[←z1y ⟨n,tm,hp,up⟩ (0,ms)];rfl
   exact⟨hr.size,hr.defers,fun t q hq=>(hr.tm t q hq).mono hE,by show HR (push ((ms,_)::hp) up) β own _;rw[e2];exact hheap⟩
theorem y6l{ms:Nat}{z0:Value}[ht:z0n P t ti](hk:ti.kind=.slice e)(hz0:∀w,(zeroValue e).run P w=.ok z0 w)(h1:z0.oneCell'=true)(hx:St.ev ⟨n,tm,hp,up⟩ x=some (.rsub (0,ms) 1 lo len))(hb:look hp ms=some (.row e' 1 ys))(hlo:lo+len≤ys.length)
 (h:Ops P f R all l k ⟨n,tm,(ms,.row e' 1 (z0g ys lo (List.replicate len [.lit z0])))::hp,up⟩):Op1 P f R all ⟨none,.call ⟨.builtin .clear,#[x],#[t]⟩,ty,pos,aft,gd⟩ l k ⟨n,tm,hp,up⟩ :=
 z09 (zqs (s:=⟨n,tm,hp,up⟩) (m:=(0,ms)) ht hk hz0 h1 hx hb hlo rfl) h
end Go.Ab
namespace Go.Ab
variable{P:Program}{f:FuncId}{R:z2y}{k:List Item}{all:Array Oper}{l:List Oper}
variable{n:Nat}{tm:List (Nat × PV)}{hp:Hp}{up:Hf}{d:Nat}{ty:TypeId}{pos:String}{aft:Array Edge}{gd:Option (Nat × Bool)}{p:PV}
variable{t e e':TypeId}{ti te:TI}{x y:Operand}{kk':IntKind}{a:Int}{ms:Nat}{cs:List PV}
theorem Rep.rowp{s:St}{β:Nm→Value}{own:Nat→Prop}{ac:Act}{w:World}(h:Rep s β own ac w)(hb:look s.hp ms=some (.rowp e cs)) :
 ∃vs,(∀g,(β (0,ms)).ownBlock=some g→own g)∧w.ownsRow 0 e 1 (β (0,ms)) cs.length vs∧(∀u∈vs,u.oneCell'=true)∧∀(j:Nat) (x:PV) (u:Value),cs[j]? =some x→vs[j]? =some u→PR β w own x u:=by
 have:=h.heap.blk (0,ms) (.rowp e cs) hb
 generalize hv:β (0,ms)=v at this
 cases this with
 | rowp v e cs vs ho hr h1 hd=>exact⟨vs,ho,hr,h1,hd⟩
theorem zh9{w:World}{v:Value}{vs:List Value}{len i:Nat}(ho:w.ownsRow 0 e 1 v len vs)(hi:i<len) :
 ∃g cap cur,v=.slice (some ⟨g,0,none⟩) len cap∧w.heap[g]? =some (.cells cur e (0,0))∧cur.toList.take (len*1)=vs∧(∀j u,vs[j]? =some u→w.cell? ⟨g,j,none⟩=some u)∧cap≤maxLen∧len≤cap∧cur.size=cap*1:=by
 rcases ho.2 with⟨_,h0⟩|⟨g,cap,cur,hv,_,hg,hle,hmx,hsz,htake⟩
 ·omega
 ·refine⟨g,cap,cur,hv,hg,htake,fun j u hj=>?_,hmx,hle,hsz⟩
  exact zD123
theorem zk6 [ht:z0n P t ti][he:z0n P e te](hk:ti.kind=.slice e)(h0:0≤a)(h1:a<cs.length)(hkk:te.size=1):Val P (.indexAddr t x y) ty [(x,.ref (0,ms)),(y,I kk' a)] [((0,ms),.rowp e' cs)] (.rptr (0,ms) 1 a.toNat 0):=fun d pos aft gd n tm hp up hd hx hb =>
 z0k rfl hd fun β own ac w hr=>by
  obtain⟨vs,ho,hown,h1',hdd⟩:=hr.rowp hb.1
  obtain⟨g,cap,cur,hv,hg,htake,hcell,_⟩:=zh9 (i:=a.toNat) hown (by omega)
  have hxv:=hr.ev hx.1
  generalize hv':ac.eval x=v at hxv
  cases hxv with
  | ref _ =>
   refine⟨.pointer (some ⟨g,a.toNat*1+0,none⟩),?_,.rptr (0,ms) 1 a.toNat 0 g _ cap hv⟩
   exact zD136
theorem znk{i:Nat}[ht:z0n P t ti](hz:cs[i]? =some p)(hs:ti.size=1)(ha:ti.agg=false):Val P (.load t x) ty [(x,.rptr (0,ms) 1 i 0)] [((0,ms),.rowp e' cs)] p:=fun d pos aft gd n tm hp up hd hx hb =>
 z0k rfl hd fun β own ac w hr=>by
  obtain⟨vs,ho,hown,h1',hdd⟩:=hr.rowp hb.1
  have hi:=(zA1.1 hz).1
  obtain⟨g,cap,cur,hv,hg,htake,hcell,_⟩:=zh9 (i:=i) hown hi
  have hxv:=hr.ev hx.1
  generalize hv':ac.eval x=v at hxv
  cases hxv with
  | rptr _ _ _ _ g' len' cap' h' =>
   rw[hv]at h';simp at h'
   obtain⟨rfl,_,_⟩:=h'
   have hvl:vs.length=cs.length*1:=hown.1
   obtain⟨c,hc⟩:∃c,vs[i]? =some c:=⟨_,zA0 (by omega)⟩
   have h1c:=h1' c (zA2 hc)
   have hpr:=hdd i p c hz hc
   have:=z0z (P:=P) ht g (i*1+0) [c] w (by simp[hs]) (fun j v hv=>by
    cases j with
    | zero=>simp at hv;subst hv;simpa using hcell i c hc
    | succ j=>simp at hv)
   simp only[Nat.mul_one,Nat.add_zero]at this hv'
   rcases this with h|h
   ·exact⟨c,by simp only[execOp,hv',Instr.loadAt,Instr.sureAddr];simp[h,ha],hpr⟩
   ·exact absurd hs h.2
theorem zjq{s:St}{i:Nat}(ht:z0n P t ti)(hx:s.ev x=some (.rptr (0,ms) 1 i 0))(hy:s.ev y=some p)(hb:look s.hp ms=some (.rowp e' cs))(hp:cellsOf p=some [p])(hok:z7i s p=true)(hz:i<cs.length)(hs:ti.size=1) :
 z0y P ⟨none,.store t x y,ty,pos,aft,gd⟩ s (s.setB (0,ms) (.rowp e' (cs.set i p))):=by
 obtain⟨n,tm,hpp,up⟩:=s
 intro β own a w hr
 have hlook:z0d (push hpp up) (0,ms)=some (.rowp e' cs):=hb
 obtain⟨vs,ho,hown,h1',hdd⟩:=hr.rowp hb
 obtain⟨g,cap,cur,hv,hg,htake,hcell,hmx,hle,hcsz⟩:=zh9 (i:=i) hown hz
 have hxv:=hr.ev hx
 generalize hv':a.eval x=v at hxv
 cases hxv with
 | rptr _ _ _ _ g' len' cap' h' =>
  rw[hv]at h';simp at h'
  obtain⟨rfl,_,_⟩:=h'
  obtain⟨c1,c2,c3⟩:=z83 (hr.ev hy) (hr.oneRef hok) hp
  obtain⟨u,hu⟩:∃u,(a.eval y).cells=#[u]:=by
   obtain⟨l,hl⟩:∃l,(a.eval y).cells=⟨l⟩:=⟨_,rfl⟩
   have:l.length=1:=by rw[hl]at c1;simpa using c1.symm
   obtain⟨u,rfl⟩:=List.length_eq_one_iff.1 this
   exact⟨u,hl⟩
  have hu1:u.oneCell'=true:=c2 u (by rw[hu];simp)
  have hpu:PR β w own p u:=c3 0 p u rfl (by rw[hu];rfl)
  have hvl:vs.length=cs.length*1:=hown.1
  have hg2:w.heap[g]? =some (.cells cur.toList.toArray e' (0,0)):=by simpa using hg
  have hrun:=z5m (P:=P) ht (w:=w) (off:=i*1+0) hg2 (v:=a.eval y) (by rw[hu,hs];rfl) c2 (by rw[hu];simp;omega)
  have hog:own g:=ho g (by rw[hv];rfl)
  have he:Ext w own (w.setRow g (z0g cur.toList (i*1+0) (a.eval y).cells.toList).toArray) own :=
   ⟨rfl,rfl,rfl,by simp,fun b hb ho=>setRow_other w g b _ fun e=>ho (e▸hog),fun b hb ho=>ho⟩
  have hsz:(z0g cur.toList (i*1+0) (a.eval y).cells.toList).length=cur.size:=by rw[z0m];simp
  have hbr:BR β (w.setRow g (z0g cur.toList (i*1+0) (a.eval y).cells.toList).toArray) own (β (0,ms)) (.rowp e' (cs.set i p)):=by
   refine .rowp _ e' _ (z0g vs (i*1+0) (a.eval y).cells.toList) ho ⟨by rw[z0m,List.length_set];exact hvl,.inr ⟨g,cap,_,by rw[List.length_set,hv],zAf _,setRow_heap w g cur _ e' _ hg,by rw[List.length_set];exact hle,hmx,by simp[z0m,hcsz],?_⟩⟩ (fun z hz'=>?_) fun j q z hq hz'=>?_
   ·rw[List.length_set]
    simp only[List.toList_toArray]
    rw[z71 _ _ _ _ (by rw[hu];simp;omega) (by simp;omega),htake]
   ·obtain⟨j,hj⟩:=zAw hz'
    rw[z2c _ _ _ (by rw[hu];simp;omega)]at hj
    split at hj
    ·exact c2 z (zA2 hj)
    ·exact h1' z (zA2 hj)
   ·rw[z2c _ _ _ (by rw[hu];simp;omega)]at hz'
    by_cases hji:j=i
    ·subst hji
     rw[zAp hz]at hq
     simp at hq;subst hq
     rw[zAz (by rw[hu];simp),hu]at hz'
     simp at hz';subst hz'
     exact hpu.mono he
    ·rw[List.getElem?_set_ne (Ne.symm hji)]at hq
     rw[zAy (by rw[hu];simp;omega)]at hz'
     exact(hdd j q z hq hz').mono he
  have hheap:=hr.heap.change (raw:=.rowp e' (cs.set i p)) hlook rfl he (by simp) (fun g' hg'=>setRow_other w g g' _ fun e=>hg' (by rw[hv,e];rfl)) (by rw[show atF (0,ms) (.rowp e' (cs.set i p))=.rowp e' (cs.set i p)from rfl];exact hbr)
  simp only[Nat.mul_one,Nat.add_zero]at hrun hv' hheap he hbr
  refine⟨.skip,undef,_,β,own,by simp only[execOp,hv'];simp[hrun],.inr ⟨rfl,rfl⟩,?_,he,rfl⟩
  have e2:push ((ms,.rowp e' (cs.set i p))::hpp) up=upd (push hpp up) (0,ms) (.rowp e' (cs.set i p)):=by rw[←z1y ⟨n,tm,hpp,up⟩ (0,ms)];rfl
  exact⟨hr.size,hr.defers,fun t q hq=>(hr.tm t q hq).mono he,by show HR (push ((ms,_)::hpp) up) β own _;rw[e2];exact hheap⟩
theorem zjy{i:Nat}[ht:z0n P t ti](hx:St.ev ⟨n,tm,hp,up⟩ x=some (.rptr (0,ms) 1 i 0))(hy:St.ev ⟨n,tm,hp,up⟩ y=some p)(hb:look hp ms=some (.rowp e' cs))(hp':cellsOf p=some [p])(hok:z7i ⟨n,tm,hp,up⟩ p=true)(hz:i<cs.length)(hs:ti.size=1)
 (h:Ops P f R all l k ⟨n,tm,(ms,.rowp e' (cs.set i p))::hp,up⟩):Op1 P f R all ⟨none,.store t x y,ty,pos,aft,gd⟩ l k ⟨n,tm,hp,up⟩ :=
 z09 (zjq (s:=⟨n,tm,hp,up⟩) ht hx hy hb hp' hok hz hs) h
theorem zbz{hp':Hp}{tm':List (Nat × PV)}(ht:∀t p,look tm' t=some p→look tm t=some p)(hh:∀s b,look hp' s=some b→look hp s=some b)(h:Run P f R k ⟨n,tm',hp',up⟩):Run P f R k ⟨n,tm,hp,up⟩:=by
 refine Run.le (s:=⟨n,tm',hp',up⟩) (fun β own a w hr=>⟨β,rfl,hr.size,hr.defers,fun t p hp=>hr.tm t p (ht t p hp),?_⟩) h
 have key:∀m b,z0d (push hp' up) m=some b→z0d (push hp up) m=some b:=by
  rintro⟨k,s⟩ b hq
  cases k with
  | zero=>exact hh s b hq
  | succ k=>exact hq
 exact zD130
theorem y8g(ms:Nat){xs:List D}(hb:look hp ms=some (.row e 1 (xs.map fun x=>[x])))(h:Run P f R k ⟨n,tm,(ms,.rowp e (xs.map .d))::hp,up⟩):Run P f R k ⟨n,tm,hp,up⟩:=by
 refine Run.le (s:=⟨n,tm,(ms,.rowp e (xs.map .d))::hp,up⟩) (fun β own a w hr=>⟨β,rfl,hr.size,hr.defers,hr.tm,?_⟩) h
 have h0:z0d (push hp up) (0,ms)=some (.row e 1 (xs.map fun x=>[x])):=hb
 have key:∀m b,z0d (push ((ms,.rowp e (xs.map .d))::hp) up) m=some b→(m=(0,ms)∧b=.rowp e (xs.map .d))∨z0d (push hp up) m=some b:=by
  rintro⟨k,s⟩ b hq
  cases k with
  | zero =>
   replace hq:look ((ms,.rowp e (xs.map .d))::hp) s=some b:=hq
   exact zD77
  | succ k=>exact .inr hq
 have liv:∀m b,z0d (push ((ms,.rowp e (xs.map .d))::hp) up) m=some b→b.live=true→∃b',z0d (push hp up) m=some b'∧b'.live=true:=fun m b hm hl=>by
  rcases key m b hm with⟨rfl,rfl⟩|h1
  ·exact⟨_,h0,rfl⟩
  ·exact⟨b,h1,hl⟩
 refine⟨fun m b hm=>?_,fun m1 m2 b1 b2 h1 h2 l1 l2 hne=>?_,hr.heap.lt⟩
 ·rcases key m b hm with⟨rfl,rfl⟩|h1
  ·have hbr:=hr.heap.blk (0,ms) _ h0
   generalize β (0,ms)=v at hbr
   cases hbr with
   | row v e kk xs' vs ho hk hown hd =>
    rw[zA4]at hown
    refine .rowp v e _ vs ho (by rw[zA4];exact hown) hd.2.2.1 fun j q u hq hu=>?_
    rw[zAd]at hq
    cases hj:xs[j]? with
    | none=>rw[hj]at hq;cases hq
    | some z =>
     rw[hj]at hq
     simp at hq;subst hq
     obtain⟨u',h1',h2'⟩:=hd.2.2.2 j [z] (by rw[zAd,hj];rfl) 0 z rfl
     rw[Nat.mul_one,Nat.add_zero,hu]at h1'
     cases h1'
     exact .d _ _ h2'
  ·exact hr.heap.blk m b h1
 ·exact zD132
theorem zld{a b:Nat}{hp:Hp}(h:z0i b hp=true)(hab:a≠b):z0i b ((a,.gone)::hp)=true:=by
 simp only[z0i,zA7]
 simp[h,hab,Blk.says]
theorem zzt(tx b:Nat){a kk len:Nat}{ys:List (List D)}(hx:look tm tx=some (.rsub (0,a) kk 0 len))(hb:look hp a=some (.row e kk ys))(hlen:len≤ys.length)(hfr:(z0i b hp&&z0p b tm)=true)(hab:a≠b)
 (h:Run P f R k ⟨n,(tx,.ref (0,b))::tm,(b,.row e kk (ys.take len))::(a,.gone)::hp,up⟩):Run P f R k ⟨n,tm,hp,up⟩:=by
 have hfr':=hfr
 simp only[zA7]at hfr
 refine Run.step (fun β own ac w hr bb fs=>⟨z4b β b (ac.tmps.getD tx undef),own,ac,w,?_,Ext.refl _ _,z1p _ _ _,.refl _ _⟩) h
 have hlk:z0d (push hp up) (0,a)=some (.row e kk ys):=hb
 obtain⟨vs,ho,hk0,hown,hrr⟩:=hr.row hlk
 have hxv:=hr.tm tx _ hx
 generalize hv':ac.tmps.getD tx undef=v at hxv⊢
 cases hxv with
 | rsub _ _ _ _ L cap ad hβ hL hc =>
 have e2:(if cap=0 then ad else ad.map (·.add (0*kk)))=ad:=by
  exact zD144
 rw[e2,Nat.sub_zero]at hv'⊢
 have hgone:Rep ⟨n,tm,(a,.gone)::hp,up⟩ β own ac w:=⟨hr.size,hr.defers,hr.tm,by
  have:=hr.heap.drop (0,a)
  rwa [show push ((a,.gone)::hp) up=upd (push hp up) (0,a) .gone by rw[←z1y ⟨n,tm,hp,up⟩ (0,a)];rfl]⟩
 have hblk:z15 (.slice ad len cap)=z15 (β (0,a)):=by rw[hβ];cases ad <;> rfl
 have hin:=hgone.install (d:=b) (v:=.slice ad len cap) (b:=.row e kk (ys.take len)) (by rw[zA7];exact⟨zld hfr.1 hab,hfr.2⟩) (Ext.refl w own) hr.heap.lt (fun m c hm hl hmd g hg=>by
  have hma:m≠(0,a):=by
   rintro rfl
   have:z0d (push ((a,.gone)::hp) up) (0,a)=some .gone:=by simp[z0d,push,look]
   rw[this]at hm
   simp at hm;subst hm;cases hl
  have hm':z0d (push hp up) m=some c:=by
   obtain⟨md,mm⟩:=m
   cases md with
   | zero =>
    have:look ((a,.gone)::hp) mm=some c:=hm
    simp only[look]at this
    rw[zAy fun e=>hma (by rw[e])]at this
    exact this
   | succ md=>exact hm
  refine⟨rfl,(hr.heap.blk m c hm').block_lt hl hg,fun _=>?_⟩
  rw[hblk]
  exact fun e=>hr.heap.inj m (0,a) c _ hm' hlk hl rfl hma g hg e) (by
  refine .row _ e kk _ (vs.take (len*kk)) (fun g hg=>ho g (by rw[hβ];cases ad <;> simpa[Value.ownBlock]using hg)) hk0 ⟨?_,?_⟩ ⟨fun x hx=>hrr.1 x (List.mem_of_mem_take hx),?_,fun u hu=>hrr.2.2.1 u (List.mem_of_mem_take hu),fun i x hi j y hj=>?_⟩
  ·exact zD134
  ·rw[zAm,Nat.min_eq_left hlen]
   rcases hown.2 with⟨h1,h2⟩|⟨g,cap2,cur,h1,hb0,hg,hle,hmx,hcs,htake⟩
   ·rw[hβ]at h1
    simp at h1
    obtain⟨rfl,rfl,rfl⟩:=h1
    exact .inl ⟨by simp;omega,by omega⟩
   ·rw[hβ]at h1
    simp at h1
    obtain⟨rfl,rfl,rfl⟩:=h1
    refine .inr ⟨g,cap,cur,rfl,hb0,hg,by omega,hmx,hcs,?_⟩
    rw[←htake,List.take_take,Nat.min_eq_left (Nat.mul_le_mul_right _ hlen)]
  ·exact zD134
  ·rw[List.getElem?_take]at hi
   split at hi
   ·rename_i hil
    obtain⟨u,hu1,hu2⟩:=hrr.2.2.2 i x hi j y hj
    have hjk:j<kk:=by rw[←hrr.1 x (zA2 hi)];exact(zA1.1 hj).1
    refine⟨u,?_,hu2⟩
    rw[List.getElem?_take,zAz]
    ·exact hu1
    ·have:(i+1)*kk≤len*kk:=Nat.mul_le_mul_right _ hil
     rw[Nat.add_mul]at this;omega
   ·cases hi)
 refine⟨hin.size,hin.defers,fun u q hu=>?_,hin.heap⟩
 simp only[look]at hu
 split at hu
 ·rename_i e;subst e;simp at hu;subst hu
  have h3:=PR.ref (β:=z4b β b (.slice ad len cap)) (w:=w) (own:=own) (0,b)
  rw[z0w]at h3
  rw[hv'];exact h3
 ·exact hin.tm u q hu
theorem y39(ms:Nat){xs xs':List D}(hw:∀(i:Nat) (z:D),xs'[i]? =some z→xs[i]? =some z∨(xs[i]? =some (D.lit z2n)∧z=D.slice []))(hwl:xs'.length=xs.length)(hb:look hp ms=some (.rowp e (xs.map .d)))(h:Run P f R k ⟨n,tm,(ms,.row e 1 (xs'.map fun x=>[x]))::hp,up⟩):Run P f R k ⟨n,tm,hp,up⟩:=by
 refine Run.le (s:=⟨n,tm,(ms,.row e 1 (xs'.map fun x=>[x]))::hp,up⟩) (fun β own a w hr=>⟨β,rfl,hr.size,hr.defers,hr.tm,?_⟩) h
 have h0:z0d (push hp up) (0,ms)=some (.rowp e (xs.map .d)):=hb
 have key:∀m b,z0d (push ((ms,.row e 1 (xs'.map fun x=>[x]))::hp) up) m=some b→(m=(0,ms)∧b=.row e 1 (xs'.map fun x=>[x]))∨z0d (push hp up) m=some b:=by
  rintro⟨k,s⟩ b hq
  cases k with
  | zero =>
   replace hq:look ((ms,.row e 1 (xs'.map fun x=>[x]))::hp) s=some b:=hq
   exact zD77
  | succ k=>exact .inr hq
 have liv:∀m b,z0d (push ((ms,.row e 1 (xs'.map fun x=>[x]))::hp) up) m=some b→b.live=true→∃b',z0d (push hp up) m=some b'∧b'.live=true:=fun m b hm hl=>by
  rcases key m b hm with⟨rfl,rfl⟩|h1
  ·exact⟨_,h0,rfl⟩
  ·exact⟨b,h1,hl⟩
 refine⟨fun m b hm=>?_,fun m1 m2 b1 b2 h1 h2 l1 l2 hne=>?_,hr.heap.lt⟩
 ·rcases key m b hm with⟨rfl,rfl⟩|h1
  ·have hbr:=hr.heap.blk (0,ms) _ h0
   generalize β (0,ms)=v at hbr
   cases hbr with
   | rowp v e cs vs ho hown h1 hd =>
    rw[zA4]at hown
    refine .row v e 1 _ vs ho (by decide) (by rw[zA4,hwl];exact hown) ⟨fun x hx=>?_,by rw[zA4,hwl];exact hown.1,h1,fun i x hi j y hj=>?_⟩
    ·simp only[List.mem_map]at hx;obtain⟨_,_,rfl⟩:=hx;rfl
    ·rw[zAd]at hi
     cases hz:xs'[i]? with
     | none=>rw[hz]at hi;cases hi
     | some z =>
      rw[hz]at hi;simp at hi;subst hi
      cases j with
      | succ j=>simp at hj
      | zero =>
       simp at hj;subst hj
       have hvl:vs.length=xs.length*1:=hown.1
       have hil:=(zA1.1 hz).1
       obtain⟨u,hu⟩:∃u,vs[i]? =some u:=⟨_,zA0 (by omega)⟩
       refine⟨u,by rw[Nat.mul_one,Nat.add_zero];exact hu,?_⟩
       rcases hw i z hz with hz1|⟨hz1,rfl⟩
       ·have:=hd i (.d z) u (by rw[zAd,hz1];rfl) hu
        cases this with|d _ _ h=>exact h
       ·have:=(hd i (.d (.lit z2n)) u (by rw[zAd,hz1];rfl) hu).lit
        rw[this];exact .nil none 0
  ·exact hr.heap.blk m b h1
 ·exact zD132
theorem zq0{s:St}{t e:TypeId}{ti te:TI}(ht:z0n P t ti)(he:z0n P e te)(hk:ti.kind=.slice e){x y:Operand}{k1:IntKind}{a:Int}(hx:s.ev x=some (I k1 a))(hy:s.ev y=some (I k1 a))(h0:0≤a)(ha:a≤137438953472)(hb:te.bytes≤1024)(hz:te.zero.all (·.oneCell')=true)
 (hz1:te.zero.length=te.size) (hz2:te.size≠0) (hf:(z0i d s.hp&&z0p d s.tm)=true) (hd:d<s.n) :
 z0y P ⟨some d,.makeSlice t x y,ty,pos,aft,gd⟩ s (s.app ⟨[],[],[],[(d,.ref (0,d))],[((0,d),.row e te.size (List.replicate a.toNat (te.zero.map D.lit)))]⟩):=by
 obtain⟨n,tm,hp,up⟩:=s
 intro β own ac w hr
 obtain⟨i,u,z,hi,hu,hiz,his,hib,hku,hzc,_⟩:=he.get
 have hsm:=z4p (b:=te.bytes) (c:=a.toNat) hb (by omega)
 have hby:(i.bytes:Int)*a≤281474976710656:=by
  exact zD131
 have hrun:=run_make (P:=P) w t e i z (ht.slice hk) hi hiz k1 k1 a a h0 (Int.le_refl _) hby (by omega)
 have hE:=Ext.alloc w own (.cells (madeCells z.cells (a.toNat*i.size)) e)
 have hzsz:z.cells.size=te.size:=by rw[←hz1,←hzc];simp
 have hget:∀i' j,i'<a.toNat→j<te.size→(madeCells z.cells (a.toNat*i.size)).toList[i'*te.size+j]? =te.zero[j]?:=by
  exact zD103
 have hlen:(madeCells z.cells (a.toNat*i.size)).toList.length=a.toNat*te.size:=by simp[size_madeCells,his]
 have hrow:z96 (w.alloc (.cells (madeCells z.cells (a.toNat*i.size)) e)) (fun g=>own g∨g=w.heap.size) te.size (List.replicate a.toNat (te.zero.map D.lit)) (madeCells z.cells (a.toNat*i.size)).toList:=by
  refine⟨fun x hx=>?_,by rw[zAr];exact hlen,fun v hv=>?_,fun i' x hx' j y hy'=>?_⟩
  ·rw[List.mem_replicate]at hx;rw[hx.2];simp[hz1]
  ·exact zD53
  ·have hi'':=(zA1.1 hx').1
   rw[zAr]at hi''
   rw[List.getElem?_replicate,zAz hi'']at hx'
   simp at hx';subst hx'
   rw[zAd]at hy'
   cases hq:te.zero[j]? with
   | none=>rw[hq]at hy';cases hy'
   | some u =>
    rw[hq]at hy';simp at hy';subst hy'
    refine⟨u,by rw[hget i' j hi'' (by have:=(zA1.1 hq).1;omega)];exact hq,?_⟩
    rw[List.all_eq_true]at hz
    exact .lit _ (hz u (zA2 hq))
 have hin:=hr.install (d:=d) hf hE (fun g hg=>by rcases hg with hg|rfl;exact zAx (hr.heap.lt g hg) (by simp);simp) (v:=.slice (some ⟨w.heap.size,0,none⟩) a.toNat a.toNat) (b:=.row e te.size (List.replicate a.toNat (te.zero.map D.lit)))
  (z3v hr.heap _ _ _ rfl)
  (.row _ e te.size _ _ (fun g hg=>by simp[Value.ownBlock]at hg;exact .inr hg.symm) (by omega)
    ⟨by rw[zAr];exact hlen,.inr ⟨w.heap.size,a.toNat,_,by rw[zAr],zAf _,z43 w _,by rw[zAr];exact zAj _,by unfold maxLen;omega,hlen,by rw[zAr,←hlen];exact List.take_length⟩⟩ hrow)
 exact zD32
section
variable{k1:IntKind}{xs:List (List D)}
theorem y4m [ht:z0n P t ti][he:z0n P e te](hk:ti.kind=.slice e)(hev:St.evs ⟨n,tm,hp,up⟩ [x,y]=some [I k1 a,I k1 a])(h0:0≤a)(ha:a≤137438953472)(hb:decide (te.bytes≤1024)=true)(hz:ze7 te 0=true)(hfr:(z0i d hp&&z0p d tm)=true)(hd:d<n)
 (hxs:List.replicate a.toNat (te.zero.map D.lit)=xs) (h:Ops P f R all l k ⟨n,(d,.ref (0,d))::tm,(d,.row e te.size xs)::hp,up⟩):Op1 P f R all ⟨some d,.makeSlice t x y,ty,pos,aft,gd⟩ l k ⟨n,tm,hp,up⟩:=by
 obtain⟨h1,h2,_⟩:=evE (xs:=[(x,I k1 a),(y,I k1 a)]) hev
 simp only[ze7,zA7,beq_iff_eq,bne_iff_ne]at hz
 subst hxs
 exact z09 (zq0 (P:=P) (d:=d) ht he hk (s:=⟨n,tm,hp,up⟩) h1 h2 h0 ha (by simpa using hb) hz.1.1.1 hz.1.1.2 hz.1.2 hfr hd) h
end
end Go.Ab
namespace Go.Ab
variable{P:Program}{ty:TypeId}{x y:Operand}{t kt et:TypeId}{α:Type}[DecidableEq α]{g:α→Value}{q:List (α × D)}{a:α}
theorem zu3{m0:Nm}{z0:Value}{y':D}{py:PV}(hm:P.underlying t=some (.map kt et))(hk:zir P kt g)(hz0:∀w,(zeroValue et).run P w=.ok z0 w)(h1:z0.oneCell'=true)(hpy:∀β w own v,PR β w own py v→v=g a)(hr:(z5t q a).getD (.lit z0)=y') :
 Val P (.lookup t x y false) ty [(x,.ref m0),(y,py)] [(m0,.mp (q.map fun p=>(g p.1,p.2)))] (.d y'):=fun d pos aft gd n tm hp up hd hx hb =>
 zwb hm hk hz0 h1 hx.1 hx.2.1 hpy hb.1 hr hd
end Go.Ab
namespace Go.Ab
open Go.ChangeShapes Go.WideShapes Go.ChangeAt Go.RowKit
variable{P:Program}
theorem zrx{g0 g1:Nat}(hgg:g0≠g1){f:FuncId}{ps:List PV}{vs:List Value}{o0 o1:Obj}(h:z0u P f ps [((0,700),.glob g0 o0),((0,701),.glob g1 o1)] [] (B true))(W:World)(h0:W.heap[g0]? =some o0)(h1:W.heap[g1]? =some o1)(hd0:∀x,o0≠.deferred x)(hd1:∀x,o1≠.deferred x)
 (hl:ps.length=vs.length) (ha:∀(β:Nm→Value) (j:Nat) (p:PV) (v:Value),ps[j]? =some p→vs[j]? =some v→PR β W (fun g=>g=g0∨g=g1) p v) :
 Calls P f vs.toArray W fun e W'=>e=.returned (.bool true)∧∃own',Ext W (fun _=>False) W' own':=by
 let β:Nm→Value:=fun m=>if m=(0,700)then .pointer (some ⟨g0,0,none⟩)else if m=(0,701)then .pointer (some ⟨g1,0,none⟩)else undef
 let H:Hf:=fun d s=>if d=0∧s=700 then some (.glob g0 o0)else if d=0∧s=701 then some (.glob g1 o1)else none
 have hlook:∀n b,z0d H n=some b→(n=(0,700)∧b=.glob g0 o0)∨(n=(0,701)∧b=.glob g1 o1):=by
  rintro⟨d,s⟩ b hb
  cases d with
  | zero =>
   simp only[z0d,H,true_and]at hb
   by_cases e1:s=700
   ·rw[zAz e1]at hb;simp at hb;subst hb e1;exact .inl ⟨rfl,rfl⟩
   ·rw[zAy e1]at hb
    by_cases e2:s=701
    ·rw[zAz e2]at hb;simp at hb;subst hb e2;exact .inr ⟨rfl,rfl⟩
    ·rw[zAy e2]at hb;cases hb
  | succ d =>
   simp only[z0d,H]at hb
   simp at hb
 have l0:z0d H (0,700)=some (.glob g0 o0):=rfl
 have l1:z0d H (0,701)=some (.glob g1 o1):=rfl
 have hHR:HR H β (fun g=>g=g0∨g=g1) W:=by
  refine⟨fun n b hb=>?_,fun n m bn bm hn hm _ _ hne g hg=>?_,fun g hg=>?_⟩
  ·rcases hlook n b hb with⟨rfl,rfl⟩|⟨rfl,rfl⟩
   ·exact .glob g0 o0 (.inl rfl) h0 hd0
   ·exact .glob g1 o1 (.inr rfl) h1 hd1
  ·rcases hlook n bn hn with⟨rfl,rfl⟩|⟨rfl,rfl⟩ <;> rcases hlook m bm hm with⟨rfl,rfl⟩|⟨rfl,rfl⟩
   ·exact absurd rfl hne
   ·have eb0:z15 (β (0,700))=some g0:=rfl
    have eb1:z15 (β (0,701))=some g1:=rfl
    rw[eb0]at hg;rw[eb1];simp at hg⊢;omega
   ·have eb0:z15 (β (0,700))=some g0:=rfl
    have eb1:z15 (β (0,701))=some g1:=rfl
    rw[eb1]at hg;rw[eb0];simp at hg⊢;omega
   ·exact absurd rfl hne
  ·rcases hg with rfl|rfl
   ·exact(Array.getElem?_eq_some_iff.1 h0).1
   ·exact(Array.getElem?_eq_some_iff.1 h1).1
 have hsp:=h H (fun q hq=>by
  simp only[zAc,List.not_mem_nil,or_false]at hq
  rcases hq with rfl|rfl <;> rfl)
 refine(hsp.run β (fun g=>g=g0∨g=g1) W vs hHR ⟨hl,fun j p v h1 h2=>ha β j p v h1 h2⟩).mono fun e W' ⟨v,r,H',own',he,⟨hr,hH'⟩,hv,hheap,hE⟩=>?_
 subst hr hH'
 cases hv with
 | v _ _ hp =>
  refine⟨by rw[he,PR.lit hp],fun _=>False,hE.os,hE.tape,hE.output,hE.size,fun b hb _=>?_,fun _ _ h=>h⟩
  have gg0:W'.heap[g0]? =some o0:=by
   have:=hheap.blk (0,700) (.glob g0 o0) l0
   generalize hx:β (0,700)=x at this
   cases this with|glob _ _ _ hg _=>exact hg
  have gg1:W'.heap[g1]? =some o1:=by
   have:=hheap.blk (0,701) (.glob g1 o1) l1
   generalize hx:β (0,701)=x at this
   cases this with|glob _ _ _ hg _=>exact hg
  by_cases e0:b=g0
  ·rw[e0,gg0,h0]
  by_cases e1:b=g1
  ·rw[e1,gg1,h1]
  exact hE.block b hb (by simp only[not_or];exact⟨e0,e1⟩)
end Go.Ab
namespace Go.Ab
variable{P:Program}{f:FuncId}{R:z2y}{k:List Item}{all:Array Oper}{o:Oper}{l:List Oper}{s:St}
variable{n:Nat}{tm:List (Nat × PV)}{hp:Hp}{up:Hf}{d:Nat}{ty:TypeId}{pos:String}{aft:Array Edge}{gd:Option (Nat × Bool)}{op:Op}{p:PV}
variable{x:Operand}{t kt et:TypeId}{ms mi g clock since last:Nat}{cur:List MapEntry}{seen:Array Nat}{es:List (Value × D)}
theorem yak(hd:∀β own a w,Rep s β own a w→∃s' nx v w' β' own',(execOp a.eval o).run P w=.ok nx w'∧(nx=.value v∨(nx=.skip∧v=undef))∧Rep s' β' own' (a.put o.dst v) w'∧Ext w own w' own'∧z5p β'=z5p β∧Ops P f R all l k s') :
 Op1 P f R all o l k s:=by
 intro i rest ho hrest β own a w hrep hw b hb hk hn cs
 obtain⟨s',nx,v,w',β',own',hrun,hnx,hrep',hext,hout,h⟩:=hd β own a w hrep
 exact zD22
theorem HR.other{β:Nm→Value}{own:Nat→Prop}{w:World}{b b':Blk}(h:HR (push hp up) β own w)(h0:look hp ms=some b)(hl:b.live=true)(hbr:BR β w own (β (0,ms)) b'):HR (push ((ms,b')::hp) up) β own w:=by
 have h0':z0d (push hp up) (0,ms)=some b:=h0
 have key:∀m c,z0d (push ((ms,b')::hp) up) m=some c→(m=(0,ms)∧c=b')∨z0d (push hp up) m=some c:=by
  rintro⟨k,s⟩ c hq
  cases k with
  | zero =>
   replace hq:look ((ms,b')::hp) s=some c:=hq
   exact zD77
  | succ k=>exact .inr hq
 have liv:∀m c,z0d (push ((ms,b')::hp) up) m=some c→c.live=true→∃c',z0d (push hp up) m=some c'∧c'.live=true:=fun m c hm hlc=>by
  rcases key m c hm with⟨rfl,rfl⟩|h1
  ·exact⟨_,h0',hl⟩
  ·exact⟨c,h1,hlc⟩
 refine⟨fun m c hm=>?_,fun m1 m2 b1 b2 h1 h2 l1 l2 hne=>?_,h.lt⟩
 ·rcases key m c hm with⟨rfl,rfl⟩|h1
  ·exact hbr
  ·exact h.blk m c h1
 ·obtain⟨c1,q1,k1⟩:=liv m1 b1 h1 l1
  obtain⟨c2,q2,k2⟩:=liv m2 b2 h2 l2
  exact h.inj m1 m2 c1 c2 q1 q2 k1 k2 hne
structure y7b(es:List (Value × D))(cur:List MapEntry)(clock:Nat):Prop where
 len:es.length=cur.length
 ent:∀(j:Nat) (x:Value × D) (m:MapEntry),es[j]? =some x→cur[j]? =some m→m.key=x.1∧m.val.oneCell'=true∧x.2=.lit m.val
 born:(cur.map (·.born)).Pairwise (· <·)
 clk:∀m∈cur,m.born<clock
theorem y7b.mem{es:List (Value × D)}(h:y7b es cur clock){m:MapEntry}(hm:m∈cur):(m.key,D.lit m.val)∈es∧m.val.oneCell'=true:=by
 obtain⟨j,hj⟩:=zAw hm
 have hl:=(zA1.1 hj).1
 obtain⟨x,hx⟩:∃x,es[j]? =some x:=⟨_,zA0 (by rw[h.len];exact hl)⟩
 obtain⟨h1,h2,h3⟩:=h.ent j x m hx hj
 refine⟨?_,h2⟩
 rw[h1,←h3]
 exact zA2 hx
theorem y7b.has{es:List (Value × D)}(h:y7b es cur clock){x:Value × D}(hx:x∈es):∃m∈cur,m.key=x.1:=by
 obtain⟨j,hj⟩:=zAw hx
 have hl:=(zA1.1 hj).1
 obtain⟨m,hm⟩:∃m,cur[j]? =some m:=⟨_,zA0 (by rw[←h.len];exact hl)⟩
 exact⟨m,zA2 hm,(h.ent j x m hj hm).1⟩
theorem zxb(ms:Nat){es:List (Value × D)}(hb:look hp ms=some (.gmap g cur clock))(hf:y7b es cur clock)(h:Run P f R k ⟨n,tm,(ms,.mp es)::hp,up⟩):Run P f R k ⟨n,tm,hp,up⟩:=by
 refine Run.le (s:=⟨n,tm,(ms,.mp es)::hp,up⟩) (fun β own a w hr=>⟨β,rfl,hr.size,hr.defers,hr.tm,hr.heap.other hb rfl ?_⟩) h
 have hbr:=hr.heap.blk (0,ms) _ (show z0d (push hp up) (0,ms)=some (.gmap g cur clock)from hb)
 generalize β (0,ms)=v at hbr
 cases hbr with
 | gmap g cur clock ho hg =>
  exact .mp g clock es cur ho hg hf.len (fun j x m hx hm=>by
   obtain⟨a1,a2,a3⟩:=hf.ent j x m hx hm
   exact⟨a1,a2,by rw[a3];exact .lit _ a2⟩) hf.born hf.clk
theorem Rep.gmap{s':St}{β:Nm→Value}{own:Nat→Prop}{a:Act}{w:World}(h:Rep s' β own a w){m:Nm}(hb:z0d (push s'.hp s'.up) m=some (.gmap g cur clock)):β m=.map (some g)∧own g∧w.heap[g]? =some (.map cur.toArray clock):=by
 have:=h.heap.blk m _ hb
 generalize hv:β m=v at this
 cases this with
 | gmap g cur clock ho hg=>exact⟨rfl,ho,hg⟩
theorem Rep.mit{s':St}{β:Nm→Value}{own:Nat→Prop}{a:Act}{w:World}(h:Rep s' β own a w){m:Nm}(hb:z0d (push s'.hp s'.up) m=some (.mit g since seen last)):∃q,β m=.pointer (some ⟨q,0,none⟩)∧own q∧w.heap[q]? =some (.mapIter (some g) since seen last):=by
 have:=h.heap.blk m _ hb
 generalize hv:β m=v at this
 cases this with
 | mit q g since seen last ho hg=>exact⟨q,rfl,ho,hg⟩
theorem zqe(w:World){g:Nat}{es:Array MapEntry}(ht:P.underlying t=some (.map kt et))(hb:w.heap[g]? =some (.map es clock)) :
 (Instr.range t (.map (some g))).run P w=.ok (.pointer (some ⟨w.heap.size,0,none⟩)) (w.alloc (.mapIter (some g) clock #[] clock)):=run_range_map w t kt et g es clock ht hb
theorem y0e(hm:P.underlying t=some (.map kt et))(hx:St.ev ⟨n,tm,hp,up⟩ x=some (.ref (0,ms)))(hb:look hp ms=some (.gmap g cur clock))(hfr:(z0i d hp&&z0p d tm)=true)(hd:d<n)
 (h:Ops P f R all l k ⟨n,(d,.ptr (0,d) 0)::tm,(d,.mit g clock #[] clock)::hp,up⟩) :
 Op1 P f R all ⟨some d,.range t x,ty,pos,aft,gd⟩ l k ⟨n,tm,hp,up⟩:=by
 refine z09 ?_ h
 intro β own a w hr
 obtain⟨hβ,hog,hgh⟩:=hr.gmap (show z0d (push hp up) (0,ms)=some (.gmap g cur clock)from hb)
 have hxv:=hr.ev hx
 have he:=Ext.alloc w own (.mapIter (some g) clock #[] clock)
 have hin:=hr.install (d:=d) hfr he (fun q hq=>by rcases hq with hq|rfl;exact zAx (hr.heap.lt q hq) (by simp);simp) (v:=.pointer (some ⟨w.heap.size,0,none⟩)) (b:=.mit g clock #[] clock)
  (z3v hr.heap _ _ _ rfl) (.mit w.heap.size g clock #[] clock (.inr rfl) (z43 w _))
 refine⟨_,.pointer (some ⟨w.heap.size,0,none⟩),w.alloc (.mapIter (some g) clock #[] clock),z4b β d (.pointer (some ⟨w.heap.size,0,none⟩)),_,?_,.inl rfl,?_,he,z1p _ _ _⟩
 ·have h2:=zqe (P:=P) (kt:=kt) (et:=et) w hm hgh
  have ex:a.eval x=.map (some g):=by
   generalize a.eval x=v at hxv
   cases hxv with
   | ref _=>exact hβ
  simp only[execOp,ex]
  rw[Sem.run_bind,h2];rfl
 ·exact hin.put (dst:=some d) (p:=.ptr (0,d) 0) (by simp[St.fits,hd]) (.ptr _ 0 w.heap.size (z0w _ _ _))
theorem zt6(w:World){q:Nat}{tt:TypeId}{es:Array MapEntry}(hh:w.heap[q]? =some (.mapIter (some g) since seen last))(hb:w.heap[g]? =some (.map es clock))(hold:∀e∈es.toList,e.born<since)(hsc:since≤last) :
 ((leftOf es seen).size=0∧(Instr.next (.pointer (some ⟨q,0,none⟩)) false tt).run P w=.ok (.tuple #[.bool false]) w) ∨
 ∃e∈(leftOf es seen).toList,∃w1:World,(w1=w∨w1=w.drew)∧(Instr.next (.pointer (some ⟨q,0,none⟩)) false tt).run P w=.ok (.tuple #[.bool true,e.key,e.val]) (World.setObj' w1 q (.mapIter (some g) since (seen.push e.born) clock)):=by
 simp only[Instr.next,getObj,Sem.run_bind,Sem.run,hh,hb,Result.andThen,next_test_false seen es since last hold hsc,Bool.false_eq_true,if_false]
 unfold leftOf
 have hmem:∀e∈(Array.filter (fun e=>!seen.contains e.born) es).toList,e.born<since:=fun x hx=>hold x (by simp at hx⊢;exact hx.1)
 generalize Array.filter (fun e=>!seen.contains e.born) es=L at hmem⊢
 have e1:L.filter (fun x=>decide (x.born<since))=L:=Array.filter_eq_self.2 fun x hx=>by simpa using hmem x (by simpa using hx)
 have e2:L.filter (fun x=>decide (x.born≥since))=#[]:=by
  rw[Array.filter_eq_empty_iff]
  intro x hx
  have:=hmem x (by simpa using hx)
  simp
  omega
 simp only[e1,e2,Array.append_empty]
 by_cases h0:L.size=0
 ·left
  have:L=#[]:=Array.eq_empty_of_size_eq_zero h0
  subst this
  refine⟨rfl,?_⟩
  simp[choose,Sem.run,Question.forced]
 ·right
  have hne:L.isEmpty=false:=by simp[Array.isEmpty,h0]
  simp only[hne,Bool.false_eq_true,if_false,Array.empty_append,Array.size_map]
  have hch:∃(j:Nat) (w1:World),j<L.size∧(w1=w∨w1=w.drew)∧(choose (Question.mapNext L.size)).run P w=.ok j w1:=by
   by_cases hf:L.size≤1
   ·exact⟨0,w,by omega,.inl rfl,by simp[choose,Sem.run,Question.forced,hf]⟩
   ·exact⟨_,w.drew,Nat.mod_lt _ (by omega),.inr rfl,by
     simp only[choose,Sem.run,Question.forced,zA3,hf,if_false,Question.cut]
     rfl⟩
  obtain⟨j,w1,hj,hal,hrun⟩:=hch
  refine⟨L[j],by simp,w1,hal,?_⟩
  have hhp:w1.heap=w.heap:=by rcases hal with rfl|rfl <;> rfl
  simp only[hrun,Array.getElem?_map,Array.getElem?_eq_getElem hj,Option.map_some,Sem.run_bind,setObj,Sem.run,hhp,hh,Result.andThen]
  simp[World.setObj',hhp]
theorem y6u(hx:St.ev ⟨n,tm,hp,up⟩ x=some (.ptr (0,mi) 0))(hi:look hp mi=some (.mit g since seen last))(hb:look hp ms=some (.gmap g cur clock))(hold:∀e∈cur,e.born<since)(hsc:since≤last)
 (hone:∀e∈cur,e.key.oneCell'=true∧e.val.oneCell'=true) (hd:d<n)
 (h0:(∀e∈cur,seen.contains e.born=true)→Ops P f R all l k ⟨n,(d,.tup [B false])::tm,hp,up⟩)
 (h1:∀e∈cur,seen.contains e.born=false→Ops P f R all l k ⟨n,(d,.tup [B true,.d (.lit e.key),.d (.lit e.val)])::tm,(mi,.mit g since (seen.push e.born) clock)::hp,up⟩) :
 Op1 P f R all ⟨some d,.next x false,ty,pos,aft,gd⟩ l k ⟨n,tm,hp,up⟩:=by
 refine yak fun β own a w hr=>?_
 obtain⟨hβ,hog,hgh⟩:=hr.gmap (show z0d (push hp up) (0,ms)=some (.gmap g cur clock)from hb)
 have hlk:z0d (push hp up) (0,mi)=some (.mit g since seen last):=hi
 obtain⟨q,hβi,hoq,hqh⟩:=hr.mit (s':=⟨n,tm,hp,up⟩) hlk
 have hxv:=hr.ev hx
 generalize hv:a.eval x=v at hxv
 cases hxv with
 | ptr _ _ g' hb' =>
  rw[hβi]at hb';simp at hb';subst hb'
  rcases zt6 (P:=P) (tt:=ty) w hqh hgh (by simpa using hold) hsc with⟨hz,hrun⟩|⟨e,he,w1,hw1,hrun⟩
  ·refine⟨_,_,.tuple #[.bool false],w,β,own,by simp only[execOp,hv];rw[Sem.run_bind,hrun];rfl,.inl rfl,?_,Ext.refl _ _,rfl,h0 fun e he=>all_seen _ _ hz e (by simpa using he)⟩
   refine hr.put (dst:=some d) (by simp[St.fits,hd]) (.tup [B false] [.bool false] rfl fun j q u hq hu=>?_)
   match j with
   | 0=>simp at hq hu;subst hq hu;exact .B _
   | j+1=>simp at hq
  ·have hme:=mem_left he
   have hec:e∈cur:=by simpa using hme.1
   have hB:RowKit.Below w.heap.size w w1:=by rcases hw1 with rfl|rfl <;> exact⟨rfl,rfl,rfl,zAj _,fun _ _=>rfl⟩
   have hr1:=hr.below hB
   have hE1:=Below.ext hB own
   have hq1:w1.heap[q]? =some (.mapIter (some g) since seen last):=by rcases hw1 with rfl|rfl <;> exact hqh
   have hql:=(Array.getElem?_eq_some_iff.1 hq1).1
   have hoth:∀g',g'≠q→(World.setObj' w1 q (.mapIter (some g) since (seen.push e.born) clock)).heap[g']? =w1.heap[g']?:=fun g' hg'=>by
    simp only[World.setObj']
    rw[Array.getElem?_setIfInBounds_ne (Ne.symm hg')]
   have hE:Ext w1 own (World.setObj' w1 q (.mapIter (some g) since (seen.push e.born) clock)) own :=
    ⟨rfl,rfl,rfl,by simp[World.setObj'],fun b hb ho=>hoth b fun e=>ho (e▸hoq),fun b hb ho=>ho⟩
   have hch:=hr1.heap.change (m:=(0,mi)) (raw:=.mit g since (seen.push e.born) clock) hlk rfl hE (by simp[World.setObj']) (fun g' hg'=>hoth g' fun e=>hg' (by rw[hβi,e];rfl))
    (by rw[hβi];exact .mit q g since _ clock hoq (by simp[World.setObj',hql]))
   refine⟨_,_,.tuple #[.bool true,e.key,e.val],World.setObj' w1 q (.mapIter (some g) since (seen.push e.born) clock),β,own,?_,.inl rfl,?_,hE1.trans hE,rfl,h1 e hec hme.2⟩
   ·simp only[execOp,hv];rw[Sem.run_bind,hrun];rfl
   ·have e1:push ((mi,.mit g since (seen.push e.born) clock)::hp) up=upd (push hp up) (0,mi) (.mit g since (seen.push e.born) clock):=by
     rw[←z1y ⟨n,tm,hp,up⟩ (0,mi)];rfl
    have hr2:Rep ⟨n,tm,(mi,.mit g since (seen.push e.born) clock)::hp,up⟩ β own a (World.setObj' w1 q (.mapIter (some g) since (seen.push e.born) clock)) :=
     ⟨hr1.size,hr1.defers,fun t q hq=>(hr1.tm t q hq).mono hE,by rw[e1];exact hch⟩
    refine hr2.put (dst:=some d) (by simp[St.fits,hd]) (.tup [B true,.d (.lit e.key),.d (.lit e.val)] [.bool true,e.key,e.val] rfl fun j q u hq hu=>?_)
    match j with
    | 0=>simp at hq hu;subst hq hu;exact .B _
    | 1=>simp at hq hu;subst hq hu;exact .d _ _ (.lit _ (hone e hec).1)
    | 2=>simp at hq hu;subst hq hu;exact .d _ _ (.lit _ (hone e hec).2)
    | j+3=>simp at hq
theorem zr0(w:World){q:Nat}{es:Array MapEntry}{e:MapEntry}(hh:w.heap[q]? =some (.mapIter (some g) since (seen.push e.born) clock))(hb:w.heap[g]? =some (.map es clock))(he:e∈es.toList)(hn:(es.toList.map (·.born)).Nodup) :
 (Instr.entry (.pointer (some ⟨q,0,none⟩))).run P w=.ok (.tuple #[e.key,e.val]) w:=by
 have hf:es.find? (·.born == e.born)=some e:=by rw[←Array.find?_toList];exact find_born e es.toList hn he
 simp only[Instr.entry,getObj,Sem.run_bind,Sem.run,hh,hb,Result.andThen,Array.back?_push,bne_self_eq_false,Bool.false_eq_true,if_false,hf]
 rfl
theorem zxl{e:MapEntry}(hx:St.ev ⟨n,tm,hp,up⟩ x=some (.ptr (0,mi) 0))(hi:look hp mi=some (.mit g since (seen.push e.born) clock))(hb:look hp ms=some (.gmap g cur clock))(he:e∈cur)(hnd:(cur.map (·.born)).Pairwise (· <·))
 (hk:e.key.oneCell'=true) (hv1:e.val.oneCell'=true) (hd:d<n) (h:Ops P f R all l k ⟨n,(d,.tup [.d (.lit e.key),.d (.lit e.val)])::tm,hp,up⟩) :
 Op1 P f R all ⟨some d,.entry x,ty,pos,aft,gd⟩ l k ⟨n,tm,hp,up⟩:=by
 refine z09 (z0k rfl hd fun β own a w hr=>?_) h
 obtain⟨hβ,hog,hgh⟩:=hr.gmap (show z0d (push hp up) (0,ms)=some (.gmap g cur clock)from hb)
 obtain⟨q,hβi,hoq,hqh⟩:=hr.mit (s':=⟨n,tm,hp,up⟩) (show z0d (push hp up) (0,mi)=_ from hi)
 have hxv:=hr.ev hx
 generalize hv:a.eval x=v at hxv
 cases hxv with
 | ptr _ _ g' hb' =>
  rw[hβi]at hb';simp at hb';subst hb'
  have hnn:(cur.toArray.toList.map (·.born)).Nodup:=by
   rw[List.toList_toArray]
   exact List.Pairwise.imp (fun h=>Nat.ne_of_lt h) hnd
  refine⟨.tuple #[e.key,e.val],by simp only[execOp,hv];rw[Sem.run_bind,zr0 (P:=P) w hqh hgh (by simpa using he) hnn];rfl,.tup [.d (.lit e.key),.d (.lit e.val)] [e.key,e.val] rfl fun j p u hp hu=>?_⟩
  match j with
  | 0=>simp at hp hu;subst hp hu;exact .d _ _ (.lit _ hk)
  | 1=>simp at hp hu;subst hp hu;exact .d _ _ (.lit _ hv1)
  | j+2=>simp at hp
theorem y7t(ms:Nat){es:List (Value × D)}(hlit:∀x∈es,∃v,x.2=.lit v)(hb:look hp ms=some (.mp es))(h:∀g cur clock,y7b es cur clock→Op1 P f R all o l k ⟨n,tm,(ms,.gmap g cur clock)::hp,up⟩):Op1 P f R all o l k ⟨n,tm,hp,up⟩:=by
 intro i is ho his β own a w hrep hw b hb' hk hn cs
 have hlook:z0d (push hp up) (0,ms)=some (.mp es):=hb
 obtain⟨g,clock,cur,hβ,hoo,hg,hl,hd,hbn,hc⟩:=hrep.mp hlook
 refine h g cur clock ⟨hl,fun j x m hx hm=>?_,hbn,hc⟩ i is ho his β own a w ⟨hrep.size,hrep.defers,hrep.tm,hrep.heap.other hb rfl ?_⟩ hw b hb' hk hn cs
 ·obtain⟨a1,a2,a3⟩:=hd j x m hx hm
  obtain⟨v,hv⟩:=hlit x (zA2 hx)
  rw[hv]at a3⊢
  refine⟨a1,a2,?_⟩
  cases a3;rfl
 ·rw[hβ];exact .gmap g cur clock hoo hg
theorem y62(hx:St.ev ⟨n,tm,hp,up⟩ x=some (.ptr (0,mi) 0))(hi:look hp mi=some (.mit g since seen last))(hb:look hp ms=some (.gmap g cur clock))(hold:∀e∈cur,e.born<since)(hsc:since≤last)
 (hone:∀e∈cur,(∃s,e.key=.string s)∧e.val.oneCell'=true) (hd:d<n)
 (h0:(∀e∈cur,seen.contains e.born=true)→Ops P f R all l k ⟨n,(d,.tup [B false])::tm,hp,up⟩)
 (h1:∀e∈cur,seen.contains e.born=false→∀s,e.key=.string s→Ops P f R all l k ⟨n,(d,.tup [B true,S s,.d (.lit e.val)])::tm,(mi,.mit g since (seen.push e.born) clock)::hp,up⟩) :
 Op1 P f R all ⟨some d,.next x false,ty,pos,aft,gd⟩ l k ⟨n,tm,hp,up⟩ :=
 y6u hx hi hb hold hsc (fun e he=>⟨by obtain⟨s,hs⟩:=(hone e he).1;rw[hs];rfl,(hone e he).2⟩) hd h0 fun e he hs=>by
  obtain⟨s,hk⟩:=(hone e he).1
  rw[hk]
  exact h1 e he hs s hk
theorem y00{e:MapEntry}{s:ByteArray}(hx:St.ev ⟨n,tm,hp,up⟩ x=some (.ptr (0,mi) 0))(hi:look hp mi=some (.mit g since (seen.push e.born) clock))(hb:look hp ms=some (.gmap g cur clock))(he:e∈cur)(hnd:(cur.map (·.born)).Pairwise (· <·))
 (hk:e.key=.string s) (hv1:e.val.oneCell'=true) (hd:d<n) (h:Ops P f R all l k ⟨n,(d,.tup [S s,.d (.lit e.val)])::tm,hp,up⟩) :
 Op1 P f R all ⟨some d,.entry x,ty,pos,aft,gd⟩ l k ⟨n,tm,hp,up⟩ :=
 zxl hx hi hb he hnd (by rw[hk];rfl) hv1 hd (by rw[hk];exact h)
end Go.Ab
namespace Go.Ab
open Go.RowKit Go.Sort
theorem ziv{α:Type}[Inhabited α]{enc:α→Value}{S:List α}{cur:Array Value}(hl:S.length≤cur.size){j:Nat}{s:α}(hj:S[j]? =some s):(putCells enc 0 S.toArray cur)[j]? =some (enc s):=by
 have hjl:=(zA1.1 hj).1
 have hjc:j<cur.size:=by omega
 simp only[putCells,Array.getElem?_mapIdx,Array.getElem?_eq_getElem hjc,Option.map_some]
 simp[hjl]
 have:=(zA1.1 hj).2
 simp[this]
theorem zdk{α:Type}[Inhabited α]{P:Program}{f:FuncId}{e:TypeId}(enc:α→Value)(h1c:∀x,(enc x).oneCell'=true)(hp:Plain P f)(ps:List PV)(bs:List (Nm × Blk))(d x:Nat)(q S:List α)(hSl:S.length=q.length)
 (hcall:∀(H:Hf) β own w vs,HR H β own w→(∀b∈bs,H b.1.1 b.1.2=some b.2)→H d x=some (.row e 1 (q.map fun x=>[.lit (enc x)]))→z6x β w own ps vs→∀blk cap,β (d,x)=.slice (some ⟨blk,0,none⟩) q.length cap→Holds enc w blk 0 q.toArray→blk<w.heap.size→0<q.length →
   Calls P f (Value.slice (some ⟨blk,0,none⟩) q.length cap::vs).toArray w fun e w'=>e=.returned (.tuple #[])∧∃n os,w'=grow (putRow enc (Sort.ahead w n) blk 0 S.toArray) os)
 (hnone:∀(p:Option Addr) (cap:Nat) (w:World) (vs:List Value),vs.length=ps.length→Calls P f (Value.slice p 0 cap::vs).toArray w fun e w'=>e=.returned (.tuple #[])∧w'=w) :
 z0u P f (.ref (d,x)::ps) (((d,x),.row e 1 (q.map fun x=>[.lit (enc x)]))::bs) [((d,x),.row e 1 (S.map fun x=>[.lit (enc x)]))] (.tup []):=by
 refine zfv hp fun H hH β own w vals hHR hA=>?_
 have hH0:=hH ((d,x),.row e 1 (q.map fun x=>[.lit (enc x)])) (by simp)
 have hHb:∀b∈bs,H b.1.1 b.1.2=some b.2:=fun b hb=>hH b (List.mem_cons_of_mem _ hb)
 obtain⟨hl,ha⟩:=hA
 obtain⟨v,vs,rfl⟩:∃v vs,vals=v::vs:=by
  match vals,hl with
  | v::vs,_=>exact⟨v,vs,rfl⟩
 have hv:=ha 0 _ v rfl rfl
 have hv:v=β (d,x):=by cases hv with|ref _=>rfl
 subst hv
 have hA':z6x β w own ps vs:=⟨by simpa using hl,fun j p u hp hu=>ha (j+1) p u (by simpa using hp) (by simpa using hu)⟩
 have hL:z0d H (d,x)=some (.row e 1 (q.map fun x=>[.lit (enc x)])):=by
  cases d with
  | zero=>exact hH0
  | succ d=>simp only[z0d];rw[hH0];rfl
 have hblk:=hHR.blk (d,x) _ hL
 obtain⟨vv,hvv⟩:∃vv,β (d,x)=vv:=⟨_,rfl⟩
 rw[hvv]at hblk
 have fin:∀w',Ext w own w' own→HR (upd H (d,x) (.row e 1 (S.map fun x=>[.lit (enc x)]))) β own w'→yb6 (fun r H'=>r=.v (.tup [])∧H'=z6j H [((d,x),.row e 1 (S.map fun x=>[.lit (enc x)]))]) β own w (.returned (.tuple #[])) w':=fun w' hE hR =>
  ⟨_,_,_,own,rfl,⟨rfl,rfl⟩,.v _ _ (.tup [] [] rfl (by simp)),hR,hE⟩
 by_cases h0:q=[]
 ·subst h0
  obtain rfl:S=[]:=by simpa using hSl
  have hr:=hblk
  cases hr with
  | row _ _ _ _ vs' ho hk hown hd =>
   have hcl:∃p cap,vv=.slice p 0 cap:=by
    rcases hown.2 with⟨h1,_⟩|⟨g,cap,cur,h1,_⟩
    ·exact⟨none,0,h1⟩
    ·exact⟨_,cap,by simpa using h1⟩
   obtain⟨p,cap,hcl⟩:=hcl
   rw[hvv,hcl]
   refine(hnone p cap w vs (by simpa using hl.symm)).mono ?_
   rintro e' w' ⟨rfl,rfl⟩
   refine fin _ (Ext.refl _ _) ?_
   rw[zbt (m:=(d,x)) hH0]
   exact hHR
 ·have hr:=hblk
  cases hr with
  | row _ _ _ _ vs' ho hk hown hd =>
   have hql:0<q.length:=List.length_pos_iff.2 h0
   rcases hown.2 with⟨_,h1⟩|⟨g,cap,cur,h1,_,hg,hcap,hmax,hcs,htake⟩
   ·simp at h1;exact absurd h1 h0
   ·rw[zA4]at h1 hcap
    have h1':=hvv.trans h1
    have hvs:∀(j:Nat) (z:α),q[j]? =some z→cur[j]? =some (enc z):=fun j z hz=>by
     obtain⟨v,hv1,hv2⟩:=hd.2.2.2 j [.lit (enc z)] (by rw[zAd,hz];rfl) 0 _ rfl
     rw[Nat.mul_one,Nat.add_zero,←htake,zA4,Nat.mul_one]at hv1
     have hj:=(zA1.1 hz).1
     rw[List.getElem?_take_of_lt hj]at hv1
     have:v=enc z:=by cases hv2 with|lit _ _=>rfl
     subst this
     simpa using hv1
    have hholds:Holds enc w g 0 q.toArray:=fun j hj=>by
     have hj:j<q.length:=by simpa using hj
     refine⟨?_,zss hg⟩
     rw[cell_of hg,Nat.zero_add,hvs j q[j] (zA0 hj)]
     simp[hj]
    have hgl:g<w.heap.size:=(Array.getElem?_eq_some_iff.1 hg).1
    have hc:=hcall H β own w vs hHR hHb hH0 hA' g cap h1' hholds hgl hql
    rw[h1']
    refine hc.mono ?_
    rintro e' w' ⟨rfl,n,os,rfl⟩
    obtain⟨w1,hw1⟩:∃w1,putRow enc (Sort.ahead w n) g 0 S.toArray=w1:=⟨_,rfl⟩
    rw[hw1]
    have hheap:∀k,w1.heap[k]? =if g=k then some (.cells (putCells enc 0 S.toArray cur) e (0,0))else w.heap[k]?:=fun k=>by
     rw[←hw1]
     simp only[putRow,mapBlock,Sort.ahead,Array.getElem?_modify]
     split
     ·rename_i hk;subst hk;rw[hg];rfl
     ·rfl
    have hsz:w1.heap.size=w.heap.size:=by rw[←hw1];simp[putRow,mapBlock,Sort.ahead]
    have hog:own g:=ho g (by rw[h1];rfl)
    have hE:Ext w own w1 own:=by
     refine⟨by rw[←hw1];rfl,by rw[←hw1];rfl,by rw[←hw1];rfl,by omega,fun b hb hob=>?_,fun b hb hob=>hob⟩
     rw[hheap,zAy fun hh=>hob (by rw[←hh];exact hog)]
    have hSc:S.length≤cur.size:=by rw[hcs];omega
    have htk:((putCells enc 0 S.toArray cur).toList.take (S.length*1))=S.map enc:=by
     apply List.ext_getElem?
     intro j
     rw[Nat.mul_one,List.getElem?_take]
     by_cases hj:j<S.length
     ·rw[zAz hj,Array.getElem?_toList,ziv hSc (zA0 hj),zAd,zA0 hj];rfl
     ·rw[zAy hj,zAv (by simp;omega)]
    have hbr:BR β w1 own (β (d,x)) (.row e 1 (S.map fun x=>[.lit (enc x)])):=by
     rw[h1']
     refine .row _ e 1 _ (S.map enc) (fun g' hg'=>by simp[Value.ownBlock]at hg';subst hg';exact hog) (by omega) ?_ ?_
     ·refine⟨by simp,.inr ⟨g,cap,putCells enc 0 S.toArray cur,by rw[zA4,hSl],zAf _,by rw[hheap,zAz rfl],by rw[zA4,hSl];exact hcap,hmax,by simp[putCells,hcs],?_⟩⟩
      rw[zA4];exact htk
     ·refine⟨fun y hy=>?_,by simp,fun v hv=>?_,fun i y hy j z hz=>?_⟩
      ·simp only[List.mem_map]at hy;obtain⟨_,_,rfl⟩:=hy;rfl
      ·simp only[List.mem_map]at hv;obtain⟨_,_,rfl⟩:=hv;exact h1c _
      ·rw[zAd]at hy
       cases hs:S[i]? with
       | none=>rw[hs]at hy;simp at hy
       | some s =>
        rw[hs]at hy;simp at hy;subst hy
        cases j with
        | succ j=>simp at hz
        | zero =>
         simp at hz;subst hz
         exact⟨enc s,by rw[Nat.mul_one,Nat.add_zero,zAd,hs];rfl,.lit _ (h1c _)⟩
    have hR1:=hHR.change (m:=(d,x)) (raw:=.row e 1 (S.map fun x=>[.lit (enc x)])) hL rfl hE hsz (fun g' hg'=>by rw[hheap,zAy fun hh=>hg' (by rw[h1',hh];rfl)]) (by rw[z4k];exact hbr)
    have hB:RowKit.Below w1.heap.size w1 (grow w1 os):=⟨rfl,rfl,rfl,by simp[grow],fun k hk=>by simp only[grow];rw[Array.getElem?_append_left hk]⟩
    exact fin _ (hE.trans (Below.ext hB own)) (hR1.below hB)
end Go.Ab
namespace Go.Ab
variable{P:Program}{f:FuncId}{R:z2y}{k:List Item}{all:Array Oper}{l:List Oper}{n:Nat}{tm:List (Nat × PV)}{hp:Hp}{up:Hf}{d:Nat}{ty:TypeId}{pos:String}{aft:Array Edge}{gd:Option (Nat × Bool)}{s:St}
theorem zts{fn:Func}{s:St}{t u q ms:Nat}{cs qs:List PV}{y z:D}(h:fn.results=#[.tmp t,.tmp u,.tmp q])(ht:look s.tm t=some (.ptr (0,ms) 0))(hu:look s.tm u=some (.d y))(hq':look s.tm q=some (.d z))(hb:look s.hp ms=some (.box cs))(hq:Blk.lift 1 (.box qs)=.box cs):Res P fn s (.newT (.box qs) [.d y,.d z]):=fun β own a w hrep=>by
 have hbk:=hrep.heap.blk (0,ms) (.box cs) hb
 have hp:=hrep.tm t _ ht
 have hy:=(hrep.tm u _ hu).low (.d y) rfl
 have hz:=(hrep.tm q _ hq').low (.d z) rfl
 have hap:=zdy hrep hb rfl
 refine⟨.tuple #[a.tmps.getD t undef,a.tmps.getD u undef,a.tmps.getD q undef],own,by simp[results,h],Ext.refl _ _,hrep.heap.outer,?_⟩
 generalize a.tmps.getD t undef=v at hp
 generalize a.tmps.getD u undef=v2 at hy
 generalize a.tmps.getD q undef=v3 at hz
 generalize hv:β (0,ms)=u at hbk hap
 cases hp with
 | ptr _ _ g hg =>
  rw[hv]at hg
  subst hg
  refine .newT _ _ _ [v2,v3] ?_ hap rfl ?_
  ·rw[←hq]at hbk
   exact hbk.low
  ·intro j p v hp hv
   match j with
   | 0 =>
    simp only[List.getElem?_cons_zero,zAh]at hp hv
    subst hp hv;exact hy
   | 1 =>
    exact zD145
   | j+2=>simp at hp
theorem zee{g:FuncId}{args:List Operand}{ps:List PV}{ats:Array TypeId}{R':zbh}(hev:St.evs ⟨n,tm,hp,up⟩ args=some ps)(hsp:Spec P g ps (push hp up) R')(hd:d<n)(hfr:(z0i d hp&&z0p d tm)=true)
 (hk:∀r H,R' r H→∃b y z,r=.newT b [.d y,.d z]∧H=push hp up∧b.live=true∧b.says (0,d)=false∧Ops P f R all l k ⟨n,(d,.tup [y9a b (0,d),.d y,.d z])::tm,(d,b)::hp,up⟩) :
 Op1 P f R all ⟨some d,.call ⟨.value (.func g),args.toArray,ats⟩,ty,pos,aft,gd⟩ l k ⟨n,tm,hp,up⟩:=by
 refine zm1 (g:=g) fun β own a w hr=>?_
 obtain⟨vals,hrun,hargs⟩:=z6m (first:=[]) (cap:=[]) hr (fo:=.func g) rfl hev hsp.plain (dst:=some d) (ats:=ats) (ty:=ty) (pos:=pos) (aft:=aft) (gd:=gd)
 refine⟨vals.toArray,w,own,hrun,Ext.refl _ _,(hsp.run β own w vals hr.heap (by simpa using hargs)).mono fun e w' hfin=>?_⟩
 obtain⟨v,r,H,own',he,hR,hrv,hheap,hext⟩:=hfin
 obtain⟨b,y,y2,rfl,rfl,hbl,hbs,hops⟩:=hk r H hR
 cases hrv with
 | newT _ _ x xs hbr hap hl hxs =>
  have hr1:Rep ⟨n,tm,hp,up⟩ β own' a w':=⟨hr.size,hr.defers,fun t q hq=>(hr.tm t q hq).mono hext,hheap⟩
  have hbr':BR (z4b β d x) w' own' x b:=hbr.reβ (0,d) (z1x β d x) hbs
  have hin:=hr1.install (d:=d) (v:=x) (b:=b) hfr (Ext.refl w' own') hheap.lt (fun m c hm hc _ g' hg'=>⟨rfl,(hheap.blk m c hm).block_lt hc hg',fun _=>hap m c hm hc g' hg'⟩) hbr'
  obtain⟨z,z2,rfl⟩:∃z z2,xs=[z,z2]:=by
   match xs,hl with
   | [z,z2],_=>exact⟨z,z2,rfl⟩
  have hz:=hxs 0 (.d y) z rfl rfl
  have hz2:=hxs 1 (.d y2) z2 rfl rfl
  refine⟨_,z4b β d x,own',_,he,?_,hext,z1p _ _ _,hops⟩
  refine hin.put (dst:=some d) (by simp[St.fits,hd]) (.tup [y9a b (0,d),.d y,.d y2] [x,z,z2] rfl fun j p v hp hv=>?_)
  match j with
  | 0 =>
   simp only[List.getElem?_cons_zero,zAh]at hp hv
   subst hp hv;exact zot hbr' (z0w β d _)
  | 1 =>
   simp only[List.getElem?_cons_succ,List.getElem?_cons_zero,zAh]at hp hv
   subst hp hv
   cases hz with|d _ _ h=>exact .d _ _ h
  | 2 =>
   simp only[List.getElem?_cons_succ,List.getElem?_cons_zero,zAh]at hp hv
   subst hp hv
   cases hz2 with|d _ _ h=>exact .d _ _ h
  | j+3=>simp at hp
end Go.Ab
namespace Go.Ab
variable{P:Program}
theorem zs5{fn:Func}{s:St}{t u q ms mu:Nat}{ty:TypeId}{ti:TI}{cs qs us:List PV}{ds:List D}{z:D}[hty:z0n P ty ti](h:fn.results=#[.tmp t,.cell u ty,.tmp q])(ht:look s.tm t=some (.ptr (0,ms) 0))(hu:look s.tm u=some (.ptr (0,mu) 0))(hq':look s.tm q=some (.d z))(hb:look s.hp ms=some (.box cs))(hq:Blk.lift 1 (.box qs)=.box cs)
 (hbu:look s.hp mu=some (.box us)) (hds:z8d us=some ds) (hs:ds.length=ti.size) (ha:ti.agg=true):Res P fn s (.newT (.box qs) [.d (.agg ds),.d z]):=fun β own a w hrep=>by
 have hbk:=hrep.heap.blk (0,ms) (.box cs) hb
 have hp:=hrep.tm t _ ht
 have hpu:=hrep.tm u _ hu
 have hz:=(hrep.tm q _ hq').low (.d z) rfl
 have hap:=zdy hrep hb rfl
 obtain⟨g,tt,cur,hβ,ho,hg,hl0,h1,hd0⟩:=hrep.box (m:=(0,mu)) hbu
 obtain⟨hl,_,hd⟩:=z4n (own:=own) (w:=w) (β:=β) ⟨hl0,h1,hd0⟩ hds
 refine⟨.tuple #[a.tmps.getD t undef,.agg cur.toArray,a.tmps.getD q undef],own,?_,Ext.refl _ _,hrep.heap.outer,?_⟩
 ·generalize hv:a.tmps.getD u undef=v at hpu
  cases hpu with
  | ptr _ _ g' hg' =>
   rw[hβ]at hg';simp at hg';subst hg'
   have hlen:cur.length=ti.size:=by rw[←hl,zA4,hs]
   have:=z0z (P:=P) hty g 0 cur w hlen (fun j v hj=>by
    rw[Nat.zero_add,cell_of_row w g j _ tt (0,0) hg];simpa using hj)
   rcases this with h'|h'
   ·have hv2:a.tmps[u]?.getD undef=.pointer (some ⟨g,0,none⟩):=by rw[←Array.getD_eq_getD_getElem?];exact hv
    simp[results,h,hv2,asAddr,h',ha]
   ·rw[ha]at h';cases h'.1
 ·generalize a.tmps.getD t undef=v at hp
  generalize a.tmps.getD q undef=v3 at hz
  generalize hv:β (0,ms)=b at hbk hap
  cases hp with
  | ptr _ _ g2 hg2 =>
   rw[hv]at hg2
   subst hg2
   refine .newT _ _ _ [.agg cur.toArray,v3] ?_ hap rfl ?_
   ·rw[←hq]at hbk
    exact hbk.low
   ·intro j p v hp hv
    match j with
    | 0 =>
     simp only[List.getElem?_cons_zero,zAh]at hp hv
     subst hp hv
     exact zD64
    | 1 =>
     exact zD145
    | j+2=>simp at hp
end Go.Ab
