/- A part. -/
import Derived.Test.YtonhfccmeammbaaGreatDoorVa
import Derived.Laws.IdiomStrings
import Derived.Laws.CopyRow
import Derived.Laws.AppendOwn
import Derived.Laws.RangeString
import Derived.Laws.RangeAny
import Derived.MapKept
set_option linter.all false
namespace Go.Ab
variable{P:Program}{ty tx ty':TypeId}{x y z:Operand}{k:IntKind}{a b:Int}
theorem zxj{o:Oper}{s:St}{n d:Nat}{p q:PV}{tm:List (Nat × PV)}{hp:Hp}{up:Hf}(h:z1z P o s ⟨n,(d,p)::tm,hp,up⟩)(hq:∀β w own v,PR β w own p v→PR β w own q v):z1z P o s ⟨n,(d,q)::tm,hp,up⟩:=by
 intro β own a w hr
 obtain⟨nx,v,w',β',own',h1,h2,hr',h3,h4⟩:=h β own a w hr
 refine⟨nx,v,w',β',own',h1,h2,⟨hr'.size,hr'.defers,fun t u hu=>?_,hr'.heap⟩,h3,h4⟩
 simp only[look]at hu
 by_cases e:d=t
 ·subst e
  simp at hu;subst hu
  exact hq _ _ _ _ (hr'.tm d p (by simp[look]))
 ·simp[e]at hu
  exact hr'.tm t u (by simp[look,e,hu])
theorem y31{p:PV}:Val P (.move x) ty [(x,p)] [] p:=fun d pos aft gd n tm hp up hd hx hb=>y2u hx.1 hd
theorem zum{p:PV}:Val P (.assign x) ty [(x,p)] [] p:=fun d pos aft gd n tm hp up hd hx hb=>zuc hx.1 hd
theorem y4y:Val P (.move x) ty [] [] .any:=fun d pos aft gd n tm hp up hd hx hb=>znl hd
theorem ztk{p:PV}:Val P (.pick x y z) ty [(x,B true),(y,p)] [] p:=fun d pos aft gd n tm hp up hd hx hb=>zst hx.1 hx.2.1 hd
theorem zui{p:PV}:Val P (.pick x y z) ty [(x,B false),(z,p)] [] p:=fun d pos aft gd n tm hp up hd hx hb=>zun hx.1 hx.2.1 hd
theorem y5k:Val P (.binOp .lss tx x y ty') ty [(x,I k a),(y,I k b)] [] (B (decide (a<b))):=fun d pos aft gd n tm hp up hd hx hb=>y64 hx.1 hx.2.1 hd
theorem y5u:Val P (.binOp .leq tx x y ty') ty [(x,I k a),(y,I k b)] [] (B (decide (a≤b))):=fun d pos aft gd n tm hp up hd hx hb=>y4n hx.1 hx.2.1 hd
theorem y5e:Val P (.binOp .gtr tx x y ty') ty [(x,I k a),(y,I k b)] [] (B (decide (b<a))):=fun d pos aft gd n tm hp up hd hx hb=>y4s hx.1 hx.2.1 hd
theorem y4u:Val P (.binOp .geq tx x y ty') ty [(x,I k a),(y,I k b)] [] (B (decide (b≤a))):=fun d pos aft gd n tm hp up hd hx hb=>y4x hx.1 hx.2.1 hd
theorem y4p:Val P (.binOp .eql tx x y ty') ty [(x,I k a),(y,I k b)] [] (B (decide (a=b))):=fun d pos aft gd n tm hp up hd hx hb=>y5c hx.1 hx.2.1 hd
theorem y5o:Val P (.binOp .neq tx x y ty') ty [(x,I k a),(y,I k b)] [] (B (!decide (a=b))):=fun d pos aft gd n tm hp up hd hx hb=>y4z hx.1 hx.2.1 hd
theorem z0z(hr:k.wrap (a+b)=a+b):Val P (.binOp .add tx x y ty') ty [(x,I k a),(y,I k b)] [] (I k (a+b)):=fun d pos aft gd n tm hp up hd hx hb=>y4v hx.1 hx.2.1 hd hr
theorem z2l(hr:k.wrap (a-b)=a-b):Val P (.binOp .sub tx x y ty') ty [(x,I k a),(y,I k b)] [] (I k (a-b)):=fun d pos aft gd n tm hp up hd hx hb=>y6a hx.1 hx.2.1 hd hr
theorem zi9(hr:k.wrap (a*b)=a*b):Val P (.binOp .mul tx x y ty') ty [(x,I k a),(y,I k b)] [] (I k (a*b)):=fun d pos aft gd n tm hp up hd hx hb=>y57 hx.1 hx.2.1 hd hr
theorem y2d(ha:0≤a)(hb:0<b)(hr:k.wrap (a / b)=a / b):Val P (.binOp .quo tx x y ty') ty [(x,I k a),(y,I k b)] [] (I k (a / b)):=fun d pos aft gd n tm hp up hd hx _=>y5p hx.1 hx.2.1 hd ha hb hr
theorem zqb(ha:0≤a)(hb:0<b):Val P (.binOp .rem tx x y ty') ty [(x,I k a),(y,I k b)] [] (I k (a % b)):=fun d pos aft gd n tm hp up hd hx _=>y4l hx.1 hx.2.1 hd ha hb
theorem y1q(hb:b≠0):Val P (.binOp .rem tx x y ty') ty [(x,I k a),(y,I k b)] [] (I k (a.tmod b)):=fun d pos aft gd n tm hp up hd hx _=>y47 hx.1 hx.2.1 hd hb
section
variable{a b:ByteArray}
theorem y2z:Val P (.binOp .eql tx x y ty') ty [(x,S a),(y,S b)] [] (B (decide (a=b))):=fun d pos aft gd n tm hp up hd hx hb=>y3r hx.1 hx.2.1 hd
theorem y1h:Val P (.binOp .neq tx x y ty') ty [(x,S a),(y,S b)] [] (B (!decide (a=b))):=fun d pos aft gd n tm hp up hd hx hb=>y43 hx.1 hx.2.1 hd
theorem y33:Val P (.binOp .lss tx x y ty') ty [(x,S a),(y,S b)] [] (B (Op.bytesLess a.toList b.toList)):=fun d pos aft gd n tm hp up hd hx hb=>y3k hx.1 hx.2.1 hd
theorem y2c:Val P (.binOp .gtr tx x y ty') ty [(x,S a),(y,S b)] [] (B (!(Op.bytesLess a.toList b.toList||decide (a=b)))):=fun d pos aft gd n tm hp up hd hx hb=>y3h hx.1 hx.2.1 hd
end
theorem y5v{c:Bool}:Val P (.unOp .not tx x) ty [(x,B c)] [] (B (!c)):=fun d pos aft gd n tm hp up hd hx hb=>y62 hx.1 hd
theorem y3m{src dst:TypeId}{k':IntKind}{t1 t2:TI}[h1:z1d P src t1][h2:z1d P dst t2](hk:t2.kind=.int k')(hk1:t1.kind=.int k)(hr:k'.wrap b=b) :
 Val P (.convert src dst x) ty [(x,I k b)] [] (I k' b):=fun d pos aft gd n tm hp up hd hx hb=>y3v hk hk1 hx.1 hd hr
theorem zy5{m:Nm}{off:Nat}:Val P (.nilCheck x) ty [(x,.ptr m off)] [] (.ptr m off):=fun d pos aft gd n tm hp up hd hx hb=>zet hx.1 hd
theorem zue{cs:List D}:Val P (.nilCheck x) ty [(x,.eptr cs)] [] (.eptr cs):=fun d pos aft gd n tm hp up hd hx hb=>zdm hx.1 hd
section
variable{st t e:TypeId}{ti te:TI}{f off sz o:Nat}{m:Nm}{cs:List D}
theorem zyt [ht:z1d P st ti](hf:ti.fields[f]? =some (off,sz+1))(hk:ti.kind=.struct):Val P (.fieldAddr st x f) ty [(x,.ptr m o)] [] (.ptr m (o+off)) :=
 fun d pos aft gd n tm hp up hd hx hb=>zem hx.1 hf hk hd
theorem z0i [ht:z1d P st ti](hf:ti.fields[f]? =some (off,sz+1):=by exact rfl)(hk:ti.kind=.struct:=by exact rfl):Val P (.fieldAddr st x f) ty [(x,.ptr m o)] [] (.ptr m (o+off)):=zyt hf hk
theorem z5o [ht:z1d P st ti](hf:ti.fields[f]? =some (off,sz+1))(hk:ti.kind=.struct):Val P (.fieldAddr st x f) ty [(x,.eptr cs)] [] (.eptr (cs.drop off)) :=
 fun d pos aft gd n tm hp up hd hx hb=>zcw hx.1 hf hk hd
theorem z4k{i kk:Nat}[ht:z1d P st ti](hf:ti.fields[f]? =some (off,sz+1))(hk:ti.kind=.struct):Val P (.fieldAddr st x f) ty [(x,.rptr m kk i o)] [] (.rptr m kk i (o+off)) :=
 fun d pos aft gd n tm hp up hd hx hb=>zcs hx.1 hf hk hd
theorem zxr{u:D}[ht:z1d P t ti](hy:cs[0]? =some u)(hs:ti.size=1)(ha:ti.agg=false):Val P (.load t x) ty [(x,.eptr cs)] [] (.d u) :=
 fun d pos aft gd n tm hp up hd hx hb=>zig hx.1 hy hs ha hd
theorem z2f{u:D}[ht:z1d P t ti](hy:cs[0]? =some u:=by exact rfl)(hs:ti.size=1:=by exact rfl)(ha:ti.agg=false:=by exact rfl):Val P (.load t x) ty [(x,.eptr cs)] [] (.d u):=zxr hy hs ha
theorem ztz [ht:z1d P t ti](hs:cs.length=ti.size)(ha:ti.agg=true):Val P (.load t x) ty [(x,.eptr cs)] [] (.d (.agg cs)) :=
 fun d pos aft gd n tm hp up hd hx hb=>zl1 hx.1 hs ha hd
theorem z1w [ht:z1d P t ti](hs:cs.length=ti.size:=by exact rfl)(ha:ti.agg=true:=by exact rfl):Val P (.load t x) ty [(x,.eptr cs)] [] (.d (.agg cs)):=ztz hs ha
theorem zqu{b:Blk}{cs:List PV}{p:PV}[ht:z1d P t ti](hb:atF m b=.box cs)(hy:cs[off]? =some p)(hs:ti.size=1)(ha:ti.agg=false):Val P (.load t x) ty [(x,.ptr m off)] [(m,b)] p :=
 fun d pos aft gd n tm hp up hd hx hbk=>zkq hx.1 ((z30 hbk.1).trans (by rw[hb])) hy hs ha hd
theorem z16{b:Blk}{cs:List PV}{p:PV}[ht:z1d P t ti](hb:atF m b=.box cs:=by exact rfl)(hy:cs[off]? =some p:=by exact rfl)(hs:ti.size=1:=by exact rfl)(ha:ti.agg=false:=by exact rfl):Val P (.load t x) ty [(x,.ptr m off)] [(m,b)] p:=zqu hb hy hs ha
theorem y01{b:Blk}{cs:List D}[ht:z1d P t ti](hb:atF m b=.box (cs.map .d))(hs:cs.length=ti.size)(ha:ti.agg=true):Val P (.load t x) ty [(x,.ptr m 0)] [(m,b)] (.d (.agg cs)) :=
 fun d pos aft gd n tm hp up hd hx hbk=>zo0 hx.1 ((z30 hbk.1).trans (by rw[hb])) (by rw[List.drop_zero,←hs];exact List.take_of_length_le (by simp)) hs ha hd
theorem z1r{b:Blk}{cs:List D}[ht:z1d P t ti](hb:atF m b=.box (cs.map .d):=by exact rfl)(hs:cs.length=ti.size:=by exact rfl)(ha:ti.agg=true:=by exact rfl):Val P (.load t x) ty [(x,.ptr m 0)] [(m,b)] (.d (.agg cs)):=y01 hb hs ha
theorem zya{b:Blk}{cs:List PV}{ds:List D}[ht:z1d P t ti](hb:atF m b=.box cs)(hq:z8d ((cs.drop off).take ti.size)=some ds)(hs:ds.length=ti.size)(ha:ti.agg=true):Val P (.load t x) ty [(x,.ptr m off)] [(m,b)] (.d (.agg ds)) :=
 fun d pos aft gd n tm hp up hd hx hbk=>zxj (zkj hx.1 ((z30 hbk.1).trans (by rw[hb])) rfl ((zh1 hq).1.symm.trans hs) ha hd) fun β w own v h=>by
  cases h with
  | agg _ vs hl h1 hd' =>
   have:=z5x ⟨hl,h1,hd'⟩ hq
   exact .d _ _ (.agg _ _ this.data.1 h1 this.data.2)
theorem z1y{b:Blk}{cs:List PV}{ds:List D}[ht:z1d P t ti](hb:atF m b=.box cs:=by exact rfl)(hq:z8d ((cs.drop off).take ti.size)=some ds:=by exact rfl)(hs:ds.length=ti.size:=by exact rfl)(ha:ti.agg=true:=by exact rfl):Val P (.load t x) ty [(x,.ptr m off)] [(m,b)] (.d (.agg ds)):=zya hb hq hs ha
end
section
variable{t e:TypeId}{ti te:TI}{ys:List (List D)}
theorem z63{s:ByteArray}[ht:z1d P t ti](hk:ti.kind=.str):Val P (.call ⟨.builtin .len,#[x],#[t]⟩) ty [(x,S s)] [] (I .i64 s.size):=fun d pos aft gd n tm hp up hd hx hb=>zpx hx.1 hk hd
theorem zdx [ht:z1d P t ti](hk:ti.kind=.slice e):Val P (.call ⟨.builtin .len,#[x],#[t]⟩) ty [(x,.d (.lit z1t))] [] (I .i64 0):=fun d pos aft gd n tm hp up hd hx hb=>zrf hx.1 hk hd
theorem z4a [ht:z1d P t ti](hk:ti.kind=.slice e):Val P (.call ⟨.builtin .len,#[x],#[t]⟩) ty [(x,.d (.slice ys))] [] (I .i64 ys.length):=fun d pos aft gd n tm hp up hd hx hb=>y1r hx.1 hk hd
theorem z0w{α:Type}{q:List α}{g:α→List D}[ht:z1d P t ti](hk:ti.kind=.slice e):Val P (.call ⟨.builtin .len,#[x],#[t]⟩) ty [(x,.d (.slice (q.map g)))] [] (I .i64 q.length):=fun d pos aft gd n tm hp up hd hx hb=>by
 have:=y1r (P:=P) (t:=t) (ty:=ty) (pos:=pos) (aft:=aft) (gd:=gd) (d:=d) hx.1 hk hd
 rwa [zA4]at this
theorem z6g{m:Nm}{e':TypeId}{kk:Nat}[ht:z1d P t ti](hk:ti.kind=.slice e):Val P (.call ⟨.builtin .len,#[x],#[t]⟩) ty [(x,.ref m)] [(m,.row e' kk ys)] (I .i64 ys.length) :=
 fun d pos aft gd n tm hp up hd hx hb=>zih hx.1 ((z30 hb.1).trans (by rw[z7q])) hk hd
theorem z47{α:Type}{q:List α}{g:α→List D}{m:Nm}{e':TypeId}{kk:Nat}[ht:z1d P t ti](hk:ti.kind=.slice e):Val P (.call ⟨.builtin .len,#[x],#[t]⟩) ty [(x,.ref m)] [(m,.row e' kk (q.map g))] (I .i64 q.length) :=
 fun d pos aft gd n tm hp up hd hx hb=>by
 have:=zih (P:=P) (t:=t) (ty:=ty) (pos:=pos) (aft:=aft) (gd:=gd) (d:=d) hx.1 ((z30 hb.1).trans (by rw[z7q])) hk hd
 rwa [zA4]at this
theorem z3k{u:List D}[ht:z1d P t ti][he:z1d P e te](hk:ti.kind=.slice e)(h0:0≤a)(hy:ys[a.toNat]? =some u)(hs:u.length=te.size):Val P (.indexAddr t x y) ty [(x,.d (.slice ys)),(y,I k a)] [] (.eptr u) :=
 fun d pos aft gd n tm hp up hd hx hb=>zzn hx.1 hx.2.1 hk h0 hy hs hd
theorem z1a{u:List D}[ht:z1d P t ti][he:z1d P e te](hk:ti.kind=.slice e)(hy:ys[a.toNat]? =some u)(h0:0≤a:=by omega)(hs:u.length=te.size:=by exact rfl):Val P (.indexAddr t x y) ty [(x,.d (.slice ys)),(y,I k a)] [] (.eptr u):=z3k hk h0 hy hs
theorem z5h{u:List D}[ht:z1d P t ti][he:z1d P e te](hk:ti.kind=.slice e)(h0:0≤a:=by omega)(hy:ys[a.toNat]? =some u:=by exact rfl)(hs:u.length=te.size:=by exact rfl):Val P (.indexAddr t x y) ty [(x,.d (.slice ys)),(y,I k a)] [] (.eptr u):=z3k hk h0 hy hs
theorem zsu [ht:z1d P t ti][he:z1d P e te](hk:ti.kind=.slice e)(h0:0≤a)(h1:a≤ys.length)(hs:∀y∈ys,y.length=te.size) :
 Val P (.slice t x (some y) none none) ty [(x,.d (.slice ys)),(y,I k a)] [] (.d (.slice (ys.drop a.toNat))) :=
 fun d pos aft gd n tm hp up hd hx hb=>zib hx.1 hx.2.1 hk h0 h1 hs hd
theorem zsj [ht:z1d P t ti][he:z1d P e te](hk:ti.kind=.slice e)(h0:0≤b)(h1:b≤ys.length)(hs:∀y∈ys,y.length=te.size) :
 Val P (.slice t x none (some z) none) ty [(x,.d (.slice ys)),(z,I k b)] [] (.d (.slice (ys.take b.toNat))) :=
 fun d pos aft gd n tm hp up hd hx hb=>zoh hx.1 hx.2.1 hk h0 h1 hs hd
theorem zra{i:Nat}{ps:List PV}{p:PV}(hi:ps[i]? =some p):Val P (.extract x i) ty [(x,.tup ps)] [] p:=fun d pos aft gd n tm hp up hd hx hb=>zs3 hx.1 hi hd
end
def z52:List (Nat × Operand)→List PV→List (Operand × PV)
 | (_,x)::r,p::ps=>(x,p)::z52 r ps
 | _,_=>[]
def z2x:List (Nat × Operand)→List PV→Option (List (Nat × List PV))
 | [],[]=>some []
 | (i,_)::r,p::ps=>match cellsOf p with
  | some cs=>match z2x r ps with
   | some q=>some ((i,cs)::q)
   | none=>none
  | none=>none
 | _,_=>none
def z55:List PV→Bool
 | []=>true
 | .ref _::_=>false
 | _::r=>z55 r
theorem z9l{s:St}:∀ {l:List (Nat × Operand)} {ps:List PV} {qs:List (Nat × List PV)},Evs s (z52 l ps)→z2x l ps=some qs→z55 ps=true→s.parts l=some qs∧s.okParts l=true
 | [],[],qs,_,h,_=>by simp[z2x]at h;subst h;exact⟨rfl,rfl⟩
 | [],p::ps,qs,_,h,_=>by simp[z2x]at h
 | (i,x)::r,[],qs,_,h,_=>by simp[z2x]at h
 | (i,x)::r,p::ps,qs,he,h,hn=>by
  simp only[z2x]at h
  simp only[z52,Evs]at he
  have hn':z55 ps=true∧z8i s p=true:=by cases p <;> simp_all [z55,z8i]
  cases hc:cellsOf p with
  | none=>rw[hc]at h;cases h
  | some cs =>
   simp only[hc]at h
   cases hq:z2x r ps with
   | none=>rw[hq]at h;cases h
   | some q =>
    rw[hq]at h
    simp at h;subst h
    obtain⟨h1,h2⟩:=z9l he.2 hq hn'.1
    exact⟨by simp[St.parts,he.1,hc,h1],by simp[St.okParts,he.1,hn'.2,h2]⟩
section
variable{t e:TypeId}{ti te:TI}{l:List (Nat × Operand)}{ps:List PV}{qs:List (Nat × List PV)}{cs:List PV}
theorem zpv{p:PV}[ht:z1d P t ti](hq:z2x l ps=some qs)(hn:z55 ps=true)(hf:z61 (fun i=>ti.fields[i]?) (z5q ti.zero) qs=some cs)(hm:mk cs=p)(hk:ti.kind=.struct)
 (hz:(ti.zero.all (·.oneCell')&&ti.fields.all fun q=>q.2 != 0)=true):Val P (.build t l.toArray) ty (z52 l ps) [] p :=
 fun d pos aft gd n tm hp up hd hx hb=>let ⟨h1,h2⟩:=z9l hx hq hn;zqg h1 h2 hf hm hk hz hd
theorem y1g{len:Nat}{ds:List D}{ys:List (List D)}[ht:z1d P t ti][he:z1d P e te](hq:z2x l ps=some qs)(hn:z55 ps=true)(hf:z61 (fun i=>some (i*te.size,te.size)) (z6c te.zero (len*te.size)) qs=some cs)
 (hm:z8d cs=some ds) (hxs:chunk te.size len ds=ys) (hk:ti.kind=.slice e) (hz:(te.zero.all (·.oneCell')&&te.zero.length == te.size&&te.size != 0&&decide (len*te.size≤16777216))=true) :
 Val P (.buildSlice t len l.toArray) ty (z52 l ps) [] (.d (.slice ys)) :=
 fun d pos aft gd n tm hp up hd hx hb=>let ⟨h1,h2⟩:=z9l hx hq hn;y5r h1 h2 hf hm hxs hk hz hd
end
end Go.Ab
namespace Go.Ab
variable{P:Program}{f:FuncId}{R:z4b}{k:List Item}{all:Array Oper}{o:Oper}{l:List Oper}
variable{n:Nat}{tm:List (Nat × PV)}{hp:Hp}{up:Hf}
abbrev zsg(tm' tm:List (Nat × PV)):Prop:=tm'.map (fun q=>look tm q.1)=tm'.map fun q=>some q.2
abbrev znk(hp' hp:Hp):Prop:=hp'.map (fun q=>look hp q.1)=hp'.map fun q=>some q.2
theorem zwf:∀ {tm' tm:List (Nat × PV)},zsg tm' tm→Sub tm' tm
 | [],_,_=>trivial
 | (t,p)::r,tm,h=>by
  simp only[zsg,List.map_cons,List.cons.injEq]at h
  exact⟨h.1,zwf h.2⟩
theorem y0j:∀ {hp' hp:Hp},znk hp' hp→zxp hp' hp
 | [],_,_=>trivial
 | (t,p)::r,tm,h=>by
  simp only[znk,List.map_cons,List.cons.injEq]at h
  exact⟨h.1,y0j h.2⟩
theorem z0d{tm':List (Nat × PV)}{hp':Hp}(hr:Run P f R k ⟨n,tm',hp',up⟩)(h:zsg tm' tm)(h':znk hp' hp):Run P f R k ⟨n,tm,hp,up⟩:=y5w hr (zwf h) (y0j h')
theorem z1o{c:Code}{σ:Type}(I:σ→St)(J:σ→Prop)(μ:σ→Nat)
 (h:∀x,J x→(∀y,J y→μ y<μ x→Run P f R (.inLoop c::k) (I y))→Run P f R (.code c::.inLoop c::k) (I x)):∀x,J x→Run P f R (.inLoop c::k) (I x):=by
 intro x hx
 exact ztu (σ:={ x:σ // J x }) (fun x=>I x.1) (fun x=>μ x.1) (fun x ih=>h x.1 x.2 fun y hy hlt=>ih ⟨y,hy⟩ hlt) ⟨x,hx⟩
theorem y13{x:Int}(h1:-9223372036854775808≤x)(h2:x≤9223372036854775807):IntKind.i64.wrap x=x:=by
 unfold IntKind.wrap
 simp[IntKind.bits,IntKind.signed]
 omega
theorem z1h{x:Int}(h1:-9223372036854775808≤x:=by omega)(h2:x≤9223372036854775807:=by omega):IntKind.i64.wrap x=x:=y13 h1 h2
theorem z0y{g:FuncId}{ps:List PV}{p:PV}(h:∀H,Spec P g ps H fun r H'=>r=.v p∧H'=H):z0q P g ps p:=h
theorem z2a{g:FuncId}{args:List PV}{bs hs:List (Nm × Blk)}{p:PV}(h:∀H:Hf,(∀q∈bs,H q.1.1 q.1.2=some q.2)→Spec P g args H fun r H'=>r=.v p∧H'=zf9 H hs):z1v P g args bs hs p:=h
theorem idx{α:Type}{l:List α}{g:α→List D}{k:Nat}{x:α}(h:l[k]? =some x):(l.map g)[((k:Nat):Int).toNat]? =some (g x):=by simp[h]
theorem z6h{α:Type}{l:List α}{g:α→List D}{i:Int}{x:α}(h:l[i.toNat]? =some x):(l.map g)[i.toNat]? =some (g x):=by simp[h]
end Go.Ab
namespace Go.Ab
variable{P:Program}{f:FuncId}{R:z4b}{k:List Item}{all:Array Oper}{o:Oper}{l:List Oper}
variable{n:Nat}{tm:List (Nat × PV)}{hp:Hp}{up:Hf}{d:Nat}{ty:TypeId}{pos:String}{aft:Array Edge}{gd:Option (Nat × Bool)}{op:Op}
theorem z3q{H:Hf}{m x:Nm}{b:Blk}:z19 (upd H m b) x=if x=m then some (atF m b)else z19 H x:=by
 obtain⟨d,t⟩:=m
 obtain⟨d',t'⟩:=x
 by_cases h:(d',t')=(d,t)
 ·simp only[Prod.mk.injEq]at h
  obtain⟨rfl,rfl⟩:=h
  cases d' <;> simp[z19,upd,atF]
 ·have h':¬(d'=d∧t'=t):=by simpa using h
  rw[zAy h]
  cases d' <;> simp[z19,upd,h']
theorem HR.write{H:Hf}{β:Nm→Value}{own:Nat→Prop}{w:World}(h:HR H β own w){m:Nm}{cs cs':List PV}{raw:Blk}(hl:z19 H m=some (.box cs)){g t:Nat}{cur cur':List Value}(hβ:β m=.pointer (some ⟨g,0,none⟩))
 (hg:w.heap[g]? =some (.cells cur.toArray t (0,0))) (hcr:CR β w own cs' cur') (hat:atF m raw=.box cs'):Ext w own (w.setRow g cur'.toArray) own∧HR (upd H m raw) β own (w.setRow g cur'.toArray):=by
 have hog:own g:=(h.blk m _ hl).block_lt rfl (by rw[hβ];rfl)
 have he:Ext w own (w.setRow g cur'.toArray) own:=by
  refine⟨rfl,rfl,rfl,by simp,fun b hb ho=>?_,fun b hb ho=>ho⟩
  exact setRow_other w g b _ fun e=>ho (e▸hog)
 refine⟨he,fun x b hx=>?_,fun x y bx by' hx hy lx ly hne g' hg'=>?_,fun g' hg'=>by simpa using h.lt g' hg'⟩
 ·rw[z3q]at hx
  by_cases hxm:x=m
  ·subst hxm
   rw[zAz rfl,hat]at hx
   simp at hx;subst hx
   rw[hβ]
   exact .box g t cs' cur' hog (setRow_heap w g _ _ t _ hg) hcr.1 hcr.2.1 fun j p v hp hv=>(hcr.2.2 j p v hp hv).mono he
  ·rw[zAy hxm]at hx
   refine(h.blk x b hx).kept he fun lb g' hg'=>⟨setRow_other w g g' _ fun e=>?_,(h.blk x b hx).block_lt lb hg'⟩
   subst e
   exact h.inj x m b _ hx hl lb rfl hxm g' hg' (by rw[hβ];rfl)
 ·rw[z3q]at hx hy
  have hm:∀z bz,(if z=m then some (atF m raw)else z19 H z)=some bz→bz.live=true→∃b',z19 H z=some b'∧b'.live=true:=by
   intro z bz hz lz
   by_cases e:z=m
   ·subst e;exact⟨_,hl,rfl⟩
   ·rw[zAy e]at hz;exact⟨bz,hz,lz⟩
  exact zD105
theorem zht{α:Type}:∀(cs:List α) (n:Nat) (ps:List α),n+ps.length≤cs.length→z1b cs n ps=cs.take n++ps++cs.drop (n+ps.length):=by
 intro cs n ps h
 apply List.ext_getElem?
 intro j
 rw[z34 cs n ps h]
 by_cases h1:j<n
 ·rw[zAy (by omega),zAl,zAb (by simp;omega),List.getElem?_take,zAz h1]
 ·by_cases h2:j<n+ps.length
  ·rw[zAz (by omega),zAl,zAg (by simp;omega),zAb (by simp;omega)]
   congr 1
   simp;omega
  ·rw[zAy (by omega),zAg (by simp;omega),List.getElem?_drop]
   congr 1
   simp;omega
theorem z6s{t:TypeId}{ti:TI}(ht:z1d P t ti){w:World}{g off tt:Nat}{cur:List Value}(hg:w.heap[g]? =some (.cells cur.toArray tt (0,0))){v:Value}(hs:v.cells.size=ti.size)(h1:∀u∈v.cells.toList,u.oneCell'=true)(hf:off+v.cells.size≤cur.length) :
 (Instr.storeAt t (.pointer (some ⟨g,off,none⟩)) v).run P w=.ok () (w.setRow g (z1b cur off v.cells.toList).toArray):=by
 have hst:=run_storeCells_at P g off tt v.cells.toList 0 cur.toArray w hg (by simpa using hf) h1
 rw[zht _ _ _ (by simpa using hf)]
 simp only[Nat.add_zero]at hst
 simp[Instr.storeAt,Instr.sureAddr,storeVar,ht.sizeOf,hs,hst]
theorem zbk{s:St}{t:TypeId}{ti:TI}(ht:z1d P t ti){x y:Operand}{m:Nm}{off:Nat}{p:PV}{cs ps:List PV}{raw raw':Blk}(hx:s.ev x=some (.ptr m off))(hy:s.ev y=some p)(hb:z5e s m=some raw)(hc:atF m raw=.box cs)
 (hp:cellsOf p=some ps) (hok:z8i s p=true) (hs:ps.length=ti.size) (hf:off+ps.length≤cs.length) (hc':atF m raw'=.box (z1b cs off ps)):z1z P ⟨none,.store t x y,ty,pos,aft,gd⟩ s (s.setB m raw'):=by
 intro β own a w hr
 obtain⟨g,tt,cur,hβ,ho,hg,hl,h1,hd⟩:=hr.box ((z30 hb).trans (by rw[hc]))
 have hxv:=hr.ev hx
 generalize hv:a.eval x=v at hxv
 cases hxv with
 | ptr _ _ g' hb' =>
  rw[hβ]at hb'
  simp at hb';subst hb'
  have hcells:=z8p (hr.ev hy) (hr.oneRef hok) hp
  have hrun:=z6s (P:=P) ht (w:=w) (off:=off) hg (v:=a.eval y) (by rw[←hcells.1];exact hs) hcells.2.1 (by rw[←hcells.1,←hl];exact hf)
  have hcr:CR β w own (z1b cs off ps) (z1b cur off (a.eval y).cells.toList) :=
   CR.z1b (us:=(a.eval y).cells.toList) ⟨hl,h1,hd⟩ ⟨by simpa using hcells.1,hcells.2.1,fun j x u hx hu=>hcells.2.2 j x u hx (by simpa using hu)⟩ hf (by rw[z1l])
    (fun j=>z34 _ _ _ (by simp only[zAe];rw[←hcells.1,←hl];exact hf) j)
  obtain⟨he,hheap⟩:=hr.heap.write (raw:=raw') ((z30 hb).trans (by rw[hc])) hβ hg hcr hc'
  refine⟨.skip,undef,_,β,own,?_,.inr ⟨rfl,rfl⟩,?_,he,rfl⟩
  ·simp only[execOp,hv];simp[hrun]
  ·refine⟨?_,hr.defers,fun t q hq=>?_,?_⟩
   ·rw[(z8b s m raw').2.1];exact hr.size
   ·rw[(z8b s m raw').1]at hq;exact(hr.tm t q hq).mono he
   ·rw[z4p];exact hheap
theorem zr5{t:TypeId}{ti:TI}[ht:z1d P t ti]{x y:Operand}{m:Nm}{off:Nat}{p:PV}{cs ps:List PV}{raw raw':Blk}{s':St}(hev:St.evs ⟨n,tm,hp,up⟩ [x,y]=some [.ptr m off,p])(hb:z5e ⟨n,tm,hp,up⟩ m=some raw)(hc:atF m raw=.box cs)
 (hp':cellsOf p=some ps) (hok:z8i ⟨n,tm,hp,up⟩ p=true) (hs:ps.length=ti.size) (hf:decide (off+ps.length≤cs.length)=true) (hc':atF m raw'=.box (z1b cs off ps)) (he:St.setB ⟨n,tm,hp,up⟩ m raw'=s') (h:Ops P f R all l k s') :
 Op1 P f R all ⟨none,.store t x y,ty,pos,aft,gd⟩ l k ⟨n,tm,hp,up⟩:=by
 obtain⟨h1,h2,_⟩:=evE (xs:=[(x,.ptr m off),(y,p)]) hev
 subst he
 exact z0b (zbk ht h1 h2 hb hc hp' hok hs (by simpa using hf) hc') h
theorem zbt{id:Nat}{ops:List Oper}{s0:St}{done:List Eff}{gr:List (Nat × PV)}{t:TypeId}{ti:TI}[ht:z1d P t ti]{x y:Operand}{m:Nm}{off:Nat}{p:PV}{cs ps:List PV}{raw raw':Blk}{s':St}
 (hg:GOK ops.toArray gd gr ⟨n,tm,hp,up⟩) (hev:St.evs ⟨n,tm,hp,up⟩ [x,y]=some [.ptr m off,p]) (hb:z5e ⟨n,tm,hp,up⟩ m=some raw) (hc:atF m raw=.box cs)
 (hp':cellsOf p=some ps) (href:z55 [p]=true) (hs:ps.length=ti.size) (hf:decide (off+ps.length≤cs.length)=true) (hc':atF m raw'=.box (z1b cs off ps)) (he:St.setB ⟨n,tm,hp,up⟩ m raw'=s')
 (h:Tr P f R id ops k s0 (done++[⟨gr++rd [(x,.ptr m off),(y,p)],[(m,raw)],[],[],[(m,raw')]⟩]) s' l):Tr P f R id ops k s0 done ⟨n,tm,hp,up⟩ (⟨none,.store t x y,ty,pos,aft,gd⟩::l):=by
 have hx:=evE (xs:=[(x,.ptr m off),(y,p)]) hev
 refine y12 (e:=⟨rd [(x,.ptr m off),(y,p)],[(m,raw)],[],[],[(m,raw')]⟩) (gr:=gr) hg ?_ ⟨z45 hx,by simpa using hb,by simp⟩ he h
 intro s2 hn ha
 obtain⟨h1,h2,_⟩:=z5n hx ha.ins
 have hok:z8i s2 p=true:=by cases p <;> simp_all [z8i,z55]
 exact zbk ht h1 h2 (ha.pre (m,raw) (by simp)) hc hp' hok hs (by simpa using hf) hc'
theorem zre{id:Nat}{ops:List Oper}{s0:St}{done:List Eff}{gr:List (Nat × PV)}{xs:List (Operand × PV)}{bs:List (Nm × Blk)}{p:PV}{hs:List (Nm × Blk)}{s':St}(hg:GOK ops.toArray gd gr ⟨n,tm,hp,up⟩)
 (hdo:∀s:St,s.n=n→Evs s xs→Bks s bs→(z1k d s.hp&&z1q d s.tm)=true→z1z P ⟨some d,op,ty,pos,aft,gd⟩ s (s.app ⟨[],[],[],[(d,p)],hs⟩))
 (hx:EvE ⟨n,tm,hp,up⟩ xs) (hb:BkE ⟨n,tm,hp,up⟩ bs) (hfr:(z1k d hp&&z1q d tm)=true) (he:St.app ⟨n,tm,hp,up⟩ ⟨[],[],[],[(d,p)],hs⟩=s')
 (h:Tr P f R id ops k s0 (done++[⟨gr++rd xs,bs,[d],[(d,p)],hs⟩]) s' l):Tr P f R id ops k s0 done ⟨n,tm,hp,up⟩ (⟨some d,op,ty,pos,aft,gd⟩::l):=by
 replace hx:=evE hx
 replace hb:=bkE hb
 refine y12 (e:=⟨rd xs,bs,[d],[(d,p)],hs⟩) (gr:=gr) hg ?_ ⟨z45 hx,z7m hb,by simpa using hfr⟩ he h
 intro s2 hn ha
 exact hdo s2 hn (z5n hx ha.ins) (zrx ha.pre) (ha.free d (by simp))
theorem zrc{id:Nat}{ops:List Oper}{s0:St}{done:List Eff}{gr:List (Nat × PV)}{t:TypeId}{ti:TI}[ht:z1d P t ti](hg:GOK ops.toArray gd gr ⟨n,tm,hp,up⟩)(hz:ti.zero.all (·.oneCell')=true)(hfr:(z1k d hp&&z1q d tm)=true)(hd:d<n)
 (h:Tr P f R id ops k s0 (done++[⟨gr++rd [],[],[d],[(d,.ptr (0,d) 0)],[((0,d),.box (z5q ti.zero))]⟩]) ⟨n,(d,.ptr (0,d) 0)::tm,(d,.box (z5q ti.zero))::hp,up⟩ l) :
 Tr P f R id ops k s0 done ⟨n,tm,hp,up⟩ (⟨some d,.alloc t,ty,pos,aft,gd⟩::l) :=
 zre hg (fun s hn hx hb hf=>by obtain⟨n',tm',hp',up'⟩:=s;simp only at hn;subst hn;exact zjy hz hf hd) rfl rfl hfr rfl h
theorem z9n.app{w:World}{own:Nat→Prop}{k:Nat}{xs ys:List (List D)}{vs us:List Value}(h:z9n w own k xs vs)(h':z9n w own k ys us):z9n w own k (xs++ys) (vs++us):=by
 obtain⟨a1,a2,a3,a4⟩:=h
 obtain⟨b1,b2,b3,b4⟩:=h'
 refine⟨fun x hx=>?_,by simp[a2,b2,Nat.add_mul],fun v hv=>?_,fun i x hi j y hj=>?_⟩
 ·rcases zAt.1 hx with hx|hx
  ·exact a1 x hx
  ·exact b1 x hx
 ·rcases zAt.1 hv with hv|hv
  ·exact a3 v hv
  ·exact b3 v hv
 ·by_cases hlt:i<xs.length
  ·rw[zAb hlt]at hi
   obtain⟨v,hv,hd⟩:=a4 i x hi j y hj
   exact⟨v,by rw[zAb (zA1.1 hv).1];exact hv,hd⟩
  ·rw[zAg (by omega)]at hi
   obtain⟨v,hv,hd⟩:=b4 _ x hi j y hj
   refine⟨v,?_,hd⟩
   have e:i*k+j=vs.length+((i-xs.length)*k+j):=by
    rw[a2,←Nat.add_assoc,←Nat.add_mul]
    congr 2
    omega
   rw[e,zAg (by omega),Nat.add_sub_cancel_left]
   exact hv
theorem zid{w:World}{own:Nat→Prop}{ys:List (List D)}{v:Value}{k:Nat}(h:DR w own (.slice ys) v)(hk:∀y∈ys,y.length=k)(hne:ys≠[]) :
 ∃(ad:Addr) (cap:Nat) (us:List Value),v=.slice (some ad) ys.length cap∧z9n w own k ys us∧∀j u,us[j]? =some u→w.cell? (ad.add j)=some u:=by
 cases h with
 | nil=>exact absurd rfl hne
 | slice _ g o cap kk c hc hown hl hkk hcell hdd =>
  have hkk':kk=k:=by
   cases ys with
   | nil=>exact absurd rfl hne
   | cons y ys=>rw[←hkk y (by simp),hk y (by simp)]
  subst hkk'
  have hlen:∀i j:Nat,i<ys.length→j<kk→i*kk+j<ys.length*kk:=by
   intro i j hi hj
   have:(i+1)*kk≤ys.length*kk:=Nat.mul_le_mul_right kk hi
   rw[Nat.add_mul]at this
   omega
  by_cases h0:kk=0
  ·subst h0
   exact⟨⟨g,o,none⟩,cap,[],rfl,⟨hkk,by simp,by simp,fun i x hi j y hj=>by
    have:=hkk x (zA2 hi)
    have:=(zA1.1 hj).1
    omega⟩,by simp⟩
  ·refine⟨⟨g,o,none⟩,cap,(List.range (ys.length*kk)).map fun p=>c (p / kk) (p % kk),rfl,⟨hkk,by simp,fun v hv=>?_,fun i x hi j y hj=>?_⟩,fun j u hu=>?_⟩
   ·simp at hv
    obtain⟨p,hp,rfl⟩:=hv
    exact(hcell _ ((Nat.div_lt_iff_lt_mul (by omega)).2 hp) _ (Nat.mod_lt _ (by omega))).2
   ·have hil:=(zA1.1 hi).1
    have hjl:j<kk:=by rw[←hkk x (zA2 hi)];exact(zA1.1 hj).1
    refine⟨c i j,?_,hdd i x hi j y hj⟩
    rw[zAd,List.getElem?_range (hlen i j hil hjl)]
    simp only[Option.map_some,zAh]
    rw[Nat.mul_comm,Nat.mul_add_div (by omega),Nat.mul_add_mod,Nat.div_eq_of_lt hjl,Nat.mod_eq_of_lt hjl,Nat.add_zero]
   ·rw[zAd]at hu
    by_cases hj:j<ys.length*kk
    ·rw[List.getElem?_range hj]at hu
     simp at hu;subst hu
     have:=(hcell (j / kk) ((Nat.div_lt_iff_lt_mul (by omega)).2 hj) (j % kk) (Nat.mod_lt _ (by omega))).1
     rw[Nat.div_add_mod' j kk]at this
     rw[z4t];exact this
    ·rw[zAv (by simpa using hj)]at hu
     simp at hu
theorem z6x{t e:TypeId}{ti te:TI}(ht:z1d P t ti)(he:z1d P e te)(hk:ti.kind=.slice e){ty:TypeId}(a:Option Addr)(len cap:Nat)(b:Option Addr)(cap':Nat)(hcap:len≤cap)(w:World)(h1:te.size≠0) :
 (Builtin.append_ #[t,t] ty #[.slice a len cap,.slice b 0 cap']).run P w=.ok (.slice a len cap) w:=by
 have hu:=ht.slice hk
 cases a with
 | none=>cases b <;> simp[Builtin.append_,run_underlying hu,he.sizeOf,Builtin.lenOf,hcap,Builtin.firstCells,loadCells,loadCellsFrom,storeCells]
 | some a=>cases b <;> simp[Builtin.append_,run_underlying hu,he.sizeOf,Builtin.lenOf,hcap,Builtin.firstCells,loadCells,loadCellsFrom,storeCells]
theorem z8e(w:World)(base:Nat)(t ty e:TypeId)(i:TypeInfo)(z:Value)(size bytes:Nat)(ht:P.underlying t=some (.slice e))(hi:P.info? e=some i)(hz:i.zero=some z)
 (hsize:i.size=size) (hby:i.bytes=bytes) (hzs:z.cells.size=size) (hsz:0<size)
 (v:Value) (n:Nat) (xs:List Value) (hown:w.ownsRow base e size v n xs)
 (a:Addr) (m c:Nat) (news:List Value) (hl:news.length=m*size) (hnews:∀(j:Nat) (u:Value),news[j]? =some u→w.cell? (a.add j)=some u) (h1:∀u∈news,u.oneCell'=true)
 (h63:n+m≤maxLen) (hbytes:(n+m)*bytes≤140737488355328) (hbase:base≤w.heap.size) (hm:m≠0) :
 ∃v' w',(Builtin.append_ #[t,t] ty #[v,.slice (some a) m c]).run P w=.ok v' w'∧w'.ownsRow base e size v' (n+m) (xs++news)∧w.grownBy w' v.ownBlock∧(v'.ownBlock=v.ownBlock∨v'.ownBlock=some w.heap.size):=by
 obtain⟨v',w',hrun,h2,h3,_⟩:=run_append_own (P:=P) w base t ty e i z size bytes ht hi hz hsize hby hzs hsz v n xs hown a m c news hl hnews h1 h63 hbytes hbase
 refine⟨v',w',hrun,h2,h3,?_⟩
 have hsmall:n+m≤9223372036854775807:=by simp only[maxLen]at h63;omega
 subst hsize hby
 rcases hown.2 with⟨rfl,rfl⟩|⟨g,cap,cur,rfl,hbg,hg,hnc,hcm,hcs,htake⟩
 ·have hr:=run_append_nil (P:=P) w t ty e i z ht hi hz a m c news hl hnews (by omega) (by omega) (by have hb:=hbytes;simp only[Nat.zero_add]at hb;omega)
  exact zD68
 ·by_cases hroom:n+m≤cap
  ·have hfit:n*i.size+news.length≤cur.size:=by rw[hl,hcs,←Nat.add_mul];exact Nat.mul_le_mul_right _ hroom
   have hr:=run_append_room (P:=P) w t ty e i ht hi g n cap cur hg a m c news hl hnews h1 hroom hfit
   rw[hr]at hrun
   simp only[Result.ok.injEq]at hrun
   left;rw[←hrun.1];rfl
  ·have holds:∀(j:Nat) (u:Value),xs[j]? =some u→w.cell? ((⟨g,0,none⟩:Addr).add j)=some u:=hown.cells (g:=g) rfl
   have hr:=run_append_grow (P:=P) w t ty e i z ht hi hz ⟨g,0,none⟩ n cap xs hown.1 holds a m c news hl hnews (by omega) (by omega) (growslice_fits (by omega) hbytes)
   exact zD68
theorem HR.drop{H:Hf}{β:Nm→Value}{own:Nat→Prop}{w:World}(h:HR H β own w)(m:Nm):HR (upd H m .gone) β own w:=by
 have key:∀x b,z19 (upd H m .gone) x=some b→b.live=true→x≠m∧z19 H x=some b:=by
  intro x b hx hl
  rw[z3q]at hx
  by_cases e:x=m
  ·rw[zAz e]at hx
   simp at hx;subst hx
   obtain⟨md,mt⟩:=m
   cases md <;> cases hl
  ·rw[zAy e]at hx;exact⟨e,hx⟩
 refine⟨fun x b hx=>?_,fun x y bx by' hx hy lx ly hne=>?_,h.lt⟩
 ·cases hb:b.live with
  | true=>exact h.blk x b (key x b hx hb).2
  | false=>cases b <;> first|(simp[Blk.live]at hb;done)|exact .gone _
 ·exact h.inj x y bx by' (key x bx hx lx).2 (key y by' hy ly).2 lx ly hne
theorem z4l{w:World}{base e k n:Nat}{v:Value}{vs:List Value}(h:w.ownsRow base e k v n vs):z2h v=v.ownBlock:=by
 rcases h.2 with h|⟨g,cap,cur,h,_⟩
 ·rw[h.1];rfl
 ·rw[h];rfl
theorem zdv{s:St}{t e:TypeId}{ti te:TI}(ht:z1d P t ti)(he:z1d P e te){x y:Operand}{m:Nm}{e':TypeId}{kk:Nat}{xs ys:List (List D)}(hx:s.ev x=some (.ref m))(hy:s.ev y=some (.d (.slice ys)))(hb:z5e s m=some (.row e' kk xs))
 (hm:m.1=0) (hk:ti.kind=.slice e) (hee:e'=e) (hkk:kk=te.size) (hys:∀y∈ys,y.length=te.size) (hz:te.zero.length=te.size) (hz0:te.size≠0) (hsm:(xs.length+ys.length)*te.bytes≤140737488355328) (hsm2:xs.length+ys.length≤9223372036854775807)
 (hf:(z1k d s.hp&&z1q d s.tm)=true) (hd:d<s.n) :
 z1z P ⟨some d,.call ⟨.builtin .append,#[x,y],#[t,t]⟩,ty,pos,aft,gd⟩ s (s.app ⟨[],[],[],[(d,.ref (0,d))],[(m,.gone),((0,d),.row e kk (xs++ys))]⟩):=by
 obtain⟨n,tm,hp,up⟩:=s
 obtain⟨md,ms⟩:=m
 simp only at hm hf hd
 subst hm hee hkk
 intro β own a w hr
 have hlook:z19 (push hp up) (0,ms)=some (.row e' te.size xs):=hb
 obtain⟨vs,ho,hk0,hown,hrr⟩:=hr.row hlook
 have hyv:=hr.ev hy
 have hxv:=hr.ev hx
 generalize hv:a.eval x=v at hxv
 generalize hu:a.eval y=u at hyv
 cases hxv with
 | ref _ =>
 cases hyv with
 | d _ _ hyd =>
  -- what the machine does
  have main:∃v' w' us,(Builtin.append_ #[t,t] ty #[β (0,ms),u]).run P w=.ok v' w'∧w'.ownsRow 0 e' te.size v' (xs.length+ys.length) (vs++us)∧w.grownBy w' (β (0,ms)).ownBlock∧z9n w own te.size ys us ∧
   (v'.ownBlock=(β (0,ms)).ownBlock∨v'.ownBlock=some w.heap.size):=by
   by_cases hnil:ys=[]
   ·subst hnil
    obtain⟨b,cap',rfl⟩:=hyd.slice_len
    refine⟨β (0,ms),w,[],?_,by simpa using hown,⟨rfl,rfl,rfl,zAj _,fun _ _ _=>rfl⟩,⟨by simp,by simp,by simp,by simp⟩,.inl rfl⟩
    rcases hown.2 with⟨h1,h2⟩|⟨g,cap,cur,h1,_,h3,h4,h5,h6,h7⟩
    ·rw[h1];exact z6x ht he hk none 0 0 b cap' (zAj _) w hz0
    ·rw[h1];exact z6x ht he hk _ _ _ b cap' h4 w hz0
   ·obtain⟨ad,cap,us,rfl,hus,hcells⟩:=zid hyd hys hnil
    obtain⟨i,uu,z,hi,huu,hzi,hs,hb',hkk,hzz,_⟩:=he.get
    obtain⟨v',w',hrun,h1,h2,h3⟩:=z8e (P:=P) w 0 t ty e' i z te.size te.bytes (ht.slice hk) hi hzi hs hb' (by rw[←zAe,hzz];exact hz) hk0 (β (0,ms)) xs.length vs hown ad ys.length cap us hus.2.1 hcells hus.2.2.1
     (by unfold maxLen;exact hsm2) hsm (zAf _) (by cases ys <;> simp_all)
    exact⟨v',w',us,hrun,h1,h2,hus,h3⟩
  obtain⟨v',w',us,hrun,hown',hgrow,hus,hwhere⟩:=main
  have hblk:=z4l hown'
  have hblk0:=z4l hown
  have hE:Ext w own w' (fun g=>own g∨v'.ownBlock=some g):=by
   exact zD50
  have hr0:Rep ⟨n,tm,(ms,.gone)::hp,up⟩ β own a w:=⟨hr.size,hr.defers,hr.tm,by
   have:=hr.heap.drop (0,ms)
   rwa [←z4p ⟨n,tm,hp,up⟩ (0,ms) .gone]at this⟩
  have hrow:z9n w' (fun g=>own g∨v'.ownBlock=some g) te.size (xs++ys) (vs++us):=(z9n.app hrr hus).mono hE
  have hin:=hr0.install (d:=d) (b:=.row e' te.size (xs++ys)) (v:=v') (own':=fun g=>own g∨v'.ownBlock=some g) (by simpa[z1k,Blk.says]using hf) hE
   (fun g hg=>by
     rcases hg with hg|hg
     ·exact zAx (hr.heap.lt g hg) hgrow.size
     ·exact(hown'.lt g hg).2)
   (fun q c hq hl hqd g hg=>by
     rw[z2t]at hq
     by_cases hqm:q=(0,ms)
     ·rw[zAz hqm]at hq;simp at hq;subst hq;cases hl
     ·rw[zAy hqm]at hq
      have hog:=(hr.heap.blk q c hq).block_lt hl hg
      have hne:(β (0,ms)).ownBlock≠some g:=fun e=>hr.heap.inj q (0,ms) c _ hq hlook hl rfl hqm g hg (by rw[hblk0];exact e)
      refine⟨hgrow.block g (hr.heap.lt g hog) fun e=>hne e.symm,.inl hog,fun _ e=>?_⟩
      rw[hblk]at e
      rcases hwhere with h|h
      ·rw[h]at e;exact hne e
      ·rw[h]at e;simp at e;have:=hr.heap.lt g hog;omega)
   (.row v' e' te.size _ _ (fun g hg=>.inr hg) hk0 (by rw[zAa];exact hown') hrow)
  refine⟨_,v',w',z69 β d v',_,?_,.inl rfl,?_,hE,z3a _ _ _⟩
  ·simp[execOp,resolve,invoke,builtin,hv,hu,hrun]
  ·exact zD43
def zks(te:TI):Bool:=te.zero.length == te.size&&te.size != 0
theorem zle{t e:TypeId}{ti te:TI}[ht:z1d P t ti][he:z1d P e te]{x y:Operand}{ms:Nat}{kk:Nat}{xs ys:List (List D)}(hev:St.evs ⟨n,tm,hp,up⟩ [x,y]=some [.ref (0,ms),.d (.slice ys)])(hb:look hp ms=some (.row e kk xs))
 (hk:ti.kind=.slice e) (hkk:kk=te.size) (hap:zks te=true) (hfr:(z1k d hp&&z1q d tm)=true) (hd:d<n)
 (hys:∀y∈ys,y.length=te.size) (hsm:(xs.length+ys.length)*te.bytes≤140737488355328) (hsm2:xs.length+ys.length≤9223372036854775807)
 (h:Ops P f R all l k ⟨n,(d,.ref (0,d))::tm,(d,.row e kk (xs++ys))::(ms,.gone)::hp,up⟩) :
 Op1 P f R all ⟨some d,.call ⟨.builtin .append,#[x,y],#[t,t]⟩,ty,pos,aft,gd⟩ l k ⟨n,tm,hp,up⟩:=by
 obtain⟨h1,h2,_⟩:=evE (xs:=[(x,.ref (0,ms)),(y,.d (.slice ys))]) hev
 simp only[zks,zA7,beq_iff_eq,bne_iff_ne]at hap
 exact z0b (zdv (P:=P) (d:=d) ht he (s:=⟨n,tm,hp,up⟩) h1 h2 hb rfl hk rfl hkk hys hap.1 hap.2 hsm hsm2 hfr hd) h
theorem zly{id:Nat}{ops:List Oper}{s0:St}{done:List Eff}{gr:List (Nat × PV)}{t e:TypeId}{ti te:TI}[ht:z1d P t ti][he:z1d P e te]{x y:Operand}{ms:Nat}{kk:Nat}{xs ys:List (List D)}(hg:GOK ops.toArray gd gr ⟨n,tm,hp,up⟩)
 (hev:St.evs ⟨n,tm,hp,up⟩ [x,y]=some [.ref (0,ms),.d (.slice ys)]) (hb:look hp ms=some (.row e kk xs))
 (hk:ti.kind=.slice e) (hkk:kk=te.size) (hap:zks te=true) (hfr:(z1k d hp&&z1q d tm)=true) (hd:d<n)
 (hys:∀y∈ys,y.length=te.size) (hsm:(xs.length+ys.length)*te.bytes≤140737488355328) (hsm2:xs.length+ys.length≤9223372036854775807)
 (h:Tr P f R id ops k s0 (done++[⟨gr++rd [(x,.ref (0,ms)),(y,.d (.slice ys))],[((0,ms),.row e kk xs)],[d],[(d,.ref (0,d))],[((0,ms),.gone),((0,d),.row e kk (xs++ys))]⟩])
   ⟨n,(d,.ref (0,d))::tm,(d,.row e kk (xs++ys))::(ms,.gone)::hp,up⟩ l) :
 Tr P f R id ops k s0 done ⟨n,tm,hp,up⟩ (⟨some d,.call ⟨.builtin .append,#[x,y],#[t,t]⟩,ty,pos,aft,gd⟩::l):=by
 simp only[zks,zA7,beq_iff_eq,bne_iff_ne]at hap
 refine zre (xs:=[(x,.ref (0,ms)),(y,.d (.slice ys))]) (bs:=[((0,ms),.row e kk xs)]) hg (fun s hn hx hb hf=>?_) hev (by simp[BkE,z5e,push,hb]) hfr rfl h
 exact zdv ht he hx.1 hx.2.1 hb.1 rfl hk rfl hkk hys hap.1 hap.2 hsm hsm2 hf (by rw[hn];exact hd)
theorem zj3{s:St}{e:TypeId}{kk:Nat}{o:Oper}(ho:o.dst=some d)(hk0:0<kk)(hrun:∀(a:Act) (w:World),(execOp a.eval o).run P w=.ok (.value z1t) w)(hf:(z1k d s.hp&&z1q d s.tm)=true)(hd:d<s.n) :
 z1z P o s (s.app ⟨[],[],[],[(d,.ref (0,d))],[((0,d),.row e kk [])]⟩):=by
 obtain⟨n,tm,hp,up⟩:=s
 intro β own a w hr
 have hin:=hr.install (d:=d) (b:=.row e kk []) (v:=z1t) hf (Ext.refl w own) hr.heap.lt (fun q c hq hl hqd g hg=>⟨rfl,(hr.heap.blk q c hq).block_lt hl hg,fun _=>by simp[z2h]⟩)
  (.row z1t e kk [] [] (by simp[Value.ownBlock]) hk0 (World.ownsRow_nil w 0 e kk) ⟨by simp,by simp,by simp,by simp⟩)
 refine⟨_,z1t,w,z69 β d z1t,own,hrun a w,.inl rfl,?_,Ext.refl _ _,z3a _ _ _⟩
 have hp:=PR.ref (β:=z69 β d z1t) (w:=w) (own:=own) (0,d)
 rw[z2d]at hp
 have:=hin.put (dst:=o.dst) (p:=.ref (0,d)) (by rw[ho];simpa[St.fits]using hd) hp
 rw[ho]at this⊢
 exact this
theorem z5f{t e:TypeId}{ti te:TI}[ht:z1d P t ti][he:z1d P e te](hk:ti.kind=.slice e)(hap:zks te=true)(hfr:(z1k d hp&&z1q d tm)=true)(hd:d<n)
 (h:Ops P f R all l k ⟨n,(d,.ref (0,d))::tm,(d,.row e te.size [])::hp,up⟩):Op1 P f R all ⟨some d,.assign (.const z1t),t,pos,aft,gd⟩ l k ⟨n,tm,hp,up⟩:=by
 simp only[zks,zA7,beq_iff_eq,bne_iff_ne]at hap
 exact z0b (zj3 (P:=P) (d:=d) (e:=e) (kk:=te.size) (s:=⟨n,tm,hp,up⟩) rfl (by omega) (fun a w=>by simp[execOp,Act.eval]) hfr hd) h
def PV.frz(m:Nm)(x:D):PV→PV
 | .ref q=>if q == m then .d x else .ref q
 | p=>p
def zvo(m:Nm)(x:D):List PV→List PV
 | []=>[]
 | p::r=>p.frz m x::zvo m x r
def znh(m:Nm)(x:D):List (Nat × PV)→List (Nat × PV)
 | []=>[]
 | (t,p)::r=>(t,p.frz m x)::znh m x r
def Blk.frz(m:Nm)(x:D):Blk→Blk
 | .box cs=>.box (zvo m x cs)
 | .rowp e cs=>.rowp e (zvo m x cs)
 | b=>b
def zkg(m:Nm)(x:D):Hp→Hp
 | []=>[]
 | (t,b)::r=>(t,b.frz m x)::zkg m x r
theorem zfa{m:Nm}{x:D}:∀ {tm:List (Nat × PV)} {t:Nat},look (znh m x tm) t=(look tm t).map (PV.frz m x)
 | [],t=>rfl
 | (k,p)::r,t=>by
  simp only[znh,look]
  split
  ·rfl
  ·exact zfa
theorem zfp{m:Nm}{x:D}:∀ {hp:Hp} {t:Nat},look (zkg m x hp) t=(look hp t).map (Blk.frz m x)
 | [],t=>rfl
 | (k,p)::r,t=>by
  simp only[zkg,look]
  split
  ·rfl
  ·exact zfp
theorem zld(m:Nm)(x:D)(cs:List PV):(zvo m x cs).length=cs.length:=by induction cs <;> simp_all [zvo]
theorem zgb(m:Nm)(x:D):∀(cs:List PV) (j:Nat),(zvo m x cs)[j]? =(cs[j]?).map (PV.frz m x)
 | [],j=>by simp[zvo]
 | p::r,0=>by simp[zvo]
 | p::r,j+1=>by simp[zvo,zgb m x r j]
theorem PR.frz{β:Nm→Value}{w:World}{own:Nat→Prop}{m:Nm}{x:D}(hm:DR w own x (β m)){p:PV}{v:Value}(h:PR β w own p v):PR β w own (p.frz m x) v:=by
 cases h with
 | ref q =>
  simp only[PV.frz]
  split
  ·rename_i e;simp at e;subst e;exact .d _ _ hm
  ·exact .ref q
 | any v=>exact .any v
 | d x v h=>exact .d x v h
 | ptr q off g h=>exact .ptr q off g h
 | eptr cs g o c a b e f=>exact .eptr cs g o c a b e f
 | rptr q k i off g len cap h=>exact .rptr q k i off g len cap h
 | rsub q k lo len L cap a h hl hc=>exact .rsub q k lo len L cap a h hl hc
 | al a b h v=>exact .al a b h v
 | agg cs vs a b c=>exact .agg cs vs a b c
 | tup cs vs a b=>exact .tup cs vs a b
 | fn f a b c d e g h i=>exact .fn f a b c d e g h i
 | yl m L h=>exact .yl m L h
 | full xs a h=>exact .full xs a h
theorem zr3{w:World}{own:Nat→Prop}{e k:Nat}{xs:List (List D)}{v:Value}{vs:List Value}(hown:w.ownsRow 0 e k v xs.length vs)(hrr:z9n w own k xs vs)(ho:∀g,v.ownBlock=some g→¬own g):DR w own (.slice xs) v:=by
 rcases hown.2 with⟨h1,h2⟩|⟨g,cap,cur,h1,_,h3,h4,h5,h6,h7⟩
 ·have:xs=[]:=List.eq_nil_of_length_eq_zero h2
  subst this h1
  exact .nil none 0
 ·subst h1
  have hlen:∀i j:Nat,i<xs.length→j<k→i*k+j<vs.length:=by
   intro i j hi hj
   have:(i+1)*k≤xs.length*k:=Nat.mul_le_mul_right k hi
   rw[Nat.add_mul]at this
   rw[hrr.2.1];omega
  refine .slice xs g 0 cap k (fun i j=>vs.getD (i*k+j) undef) h4 (ho g rfl) (Array.getElem?_eq_some_iff.1 h3).1 hrr.1 (fun i hi j hj=>?_) fun i x hi j y hj=>?_
  ·have hl:=hlen i j hi hj
   have e1:vs.getD (i*k+j) undef=vs[i*k+j]:=by simp[List.getD,zA0 hl]
   rw[e1,Nat.zero_add,cell_of_row w g _ cur e (0,0) h3]
   refine⟨?_,hrr.2.2.1 _ (List.getElem_mem _)⟩
   have:vs[i*k+j]? =cur.toList[i*k+j]?:=by
    rw[←h7,List.getElem?_take,zAz (by rw[←hrr.2.1];exact hl)]
   rw[zA0 hl]at this
   simpa using this.symm
  ·obtain⟨u,hu,hd⟩:=hrr.2.2.2 i x hi j y hj
   have e1:vs.getD (i*k+j) undef=u:=by simp[List.getD,hu]
   rw[e1];exact hd
theorem Rep.freeze{β:Nm→Value}{own:Nat→Prop}{a:Act}{w:World}{ms:Nat}{e k:Nat}{xs:List (List D)}(hr:Rep ⟨n,tm,hp,up⟩ β own a w)(hb:look hp ms=some (.row e k xs)) :
 ∃own',Ext w own w own'∧Rep ⟨n,znh (0,ms) (.slice xs) tm,(ms,.gone)::zkg (0,ms) (.slice xs) hp,up⟩ β own' a w:=by
 have hlook:z19 (push hp up) (0,ms)=some (.row e k xs):=hb
 obtain⟨vs,ho,hk0,hown,hrr⟩:=hr.row hlook
 let own':Nat→Prop:=fun g=>own g∧(β (0,ms)).ownBlock≠some g
 have hE:Ext w own w own':=⟨rfl,rfl,rfl,zAj _,fun _ _ _=>rfl,fun b _ h h'=>h h'.1⟩
 have hD:DR w own' (.slice xs) (β (0,ms)):=zr3 hown (hrr.mono hE) fun g hg h=>h.2 hg
 refine⟨own',hE,hr.size,hr.defers,fun t p hp=>?_,?_⟩
 ·rw[zfa]at hp
  cases hq:look tm t with
  | none=>rw[hq]at hp;simp at hp
  | some q=>rw[hq]at hp;simp at hp;subst hp;exact PR.frz hD ((hr.tm t q hq).mono hE)
 ·have hblk:=z4l hown
  have key:∀q b,z19 (push ((ms,.gone)::zkg (0,ms) (.slice xs) hp) up) q=some b→b.live=true→q≠(0,ms)∧∃b',z19 (push hp up) q=some b'∧b'.live=true∧(b=b'∨b=b'.frz (0,ms) (.slice xs)):=by
   intro q b hq hl
   rw[z2t]at hq
   by_cases hqm:q=(0,ms)
   ·rw[zAz hqm]at hq;simp at hq;subst hq;cases hl
   ·rw[zAy hqm]at hq
    refine⟨hqm,?_⟩
    obtain⟨qd,qt⟩:=q
    cases qd with
    | zero =>
     simp only[z19,push]at hq⊢
     rw[zfp]at hq
     cases hc:look hp qt with
     | none=>rw[hc]at hq;simp at hq
     | some c=>rw[hc]at hq;simp at hq;subst hq;exact⟨c,rfl,by cases c <;> first|rfl|exact hl,.inr rfl⟩
    | succ qd=>exact⟨b,hq,hl,.inl rfl⟩
  refine⟨fun q b hq=>?_,fun q1 q2 b1 b2 h1 h2 l1 l2 hne=>?_,fun g hg=>hr.heap.lt g hg.1⟩
  ·cases hl:b.live with
   | false=>cases b <;> first|(simp[Blk.live]at hl;done)|exact .gone _
   | true =>
    obtain⟨hqm,b',hb',lb',hor⟩:=key q b hq hl
    have hk:=(hr.heap.blk q b' hb').kept hE fun lb g hg=>⟨rfl,(hr.heap.blk q b' hb').block_lt lb hg,fun e=>hr.heap.inj q (0,ms) b' _ hb' hlook lb rfl hqm g hg (by rw[hblk];exact e)⟩
    rcases hor with rfl|rfl
    ·exact hk
    ·generalize β q=vq at hk
     cases hk with
     | box g t cs cur ho' hg' hl' h1 hd =>
      refine .box g t _ cur ho' hg' (by rw[zld];exact hl') h1 fun j p v hp hv=>?_
      exact zD73
     | row _ e' k' xs' vs' a1 a2 a3 a4=>exact .row _ e' k' xs' vs' a1 a2 a3 a4
     | rowp _ e' cs vs' ho' hr' h1 hd =>
      refine .rowp _ e' _ vs' ho' (by rw[zld];exact hr') h1 fun j p v hp hv=>?_
      exact zD73
     | siter g s pos ho hg=>exact .siter g s pos ho hg
     | gmap g cur clock ho hg=>exact .gmap g cur clock ho hg
     | mit h g since seen last ho hg=>exact .mit h g since seen last ho hg
     | glob g o ho hg hd=>exact .glob g o ho hg hd
     | mp g clock es cur ho hg hl2 hd hb hc=>exact .mp g clock es cur ho hg hl2 hd hb hc
     | lp g n' f ps asg body st state pending tmps df ho hg hl2 hd=>exact .lp g n' f ps asg body st state pending tmps df ho hg hl2 hd
     | gone _=>exact .gone _
  ·obtain⟨_,b1',hb1,lb1,_⟩:=key q1 b1 h1 l1
   obtain⟨_,b2',hb2,lb2,_⟩:=key q2 b2 h2 l2
   exact hr.heap.inj q1 q2 b1' b2' hb1 hb2 lb1 lb2 hne
theorem z1f(ms:Nat){e k':Nat}{xs:List (List D)}(hb:look hp ms=some (.row e k' xs))(h:Run P f R k ⟨n,znh (0,ms) (.slice xs) tm,(ms,.gone)::zkg (0,ms) (.slice xs) hp,up⟩):Run P f R k ⟨n,tm,hp,up⟩ :=
 Run.step (fun β own a w hr b cs=>let ⟨own',hE,hr'⟩:=hr.freeze hb;⟨β,own',a,w,hr',hE,rfl,.refl _ _⟩) h
theorem zd8(ms:Nat){e k':Nat}{xs:List (List D)}(hb:look hp ms=some (.row e k' xs))(h:Ops P f R all l k ⟨n,znh (0,ms) (.slice xs) tm,(ms,.gone)::zkg (0,ms) (.slice xs) hp,up⟩):Ops P f R all l k ⟨n,tm,hp,up⟩ :=
 fun is his=>z1f ms hb (h is his)
def PV.ren(a b:Nat)(p:PV):PV:=match p with
 | .ref q=>if q == (0,a)then .ref (0,b)else if q == (0,b)then .any else .ref q
 | .ptr q off=>if q == (0,a)then .ptr (0,b) off else if q == (0,b)then .any else .ptr q off
 | p=>if p.says (0,b)then .any else p
def zsh(a b:Nat):List PV→List PV
 | []=>[]
 | p::r=>p.ren a b::zsh a b r
def zc6(a b:Nat):List (Nat × PV)→List (Nat × PV)
 | []=>[]
 | (t,p)::r=>(t,p.ren a b)::zc6 a b r
def Blk.ren(a b:Nat):Blk→Blk
 | .box cs=>.box (zsh a b cs)
 | .rowp e cs=>.rowp e (zsh a b cs)
 | .lp n f ps asg body st state pending=>.lp n f ps asg body (zc6 a b st) state pending
 | q=>q
def zdk(a b:Nat):Hp→Hp
 | []=>[]
 | (t,q)::r=>(t,q.ren a b)::zdk a b r
theorem zcb{a b:Nat}:∀ {tm:List (Nat × PV)} {t:Nat},look (zc6 a b tm) t=(look tm t).map (PV.ren a b)
 | [],t=>rfl
 | (k,p)::r,t=>by
  simp only[zc6,look]
  split
  ·rfl
  ·exact zcb
theorem z9j{a b:Nat}:∀ {hp:Hp} {t:Nat},look (zdk a b hp) t=(look hp t).map (Blk.ren a b)
 | [],t=>rfl
 | (k,p)::r,t=>by
  simp only[zdk,look]
  split
  ·rfl
  ·exact z9j
theorem zm3(a b:Nat)(cs:List PV):(zsh a b cs).length=cs.length:=by induction cs <;> simp_all [zsh]
theorem zd9(a b:Nat):∀(cs:List PV) (j:Nat),(zsh a b cs)[j]? =(cs[j]?).map (PV.ren a b)
 | [],j=>by simp[zsh]
 | p::r,0=>by simp[zsh]
 | p::r,j+1=>by simp[zsh,zd9 a b r j]
theorem PR.ren{β:Nm→Value}{w:World}{own:Nat→Prop}{x y:Nat}{p:PV}{v:Value}(h:PR β w own p v):PR (z69 β y (β (0,x))) w own (p.ren x y) v:=by
 have gen:∀ {p:PV},PR β w own p v→PR (z69 β y (β (0,x))) w own (if p.says (0,y)then .any else p) v:=by
  intro p h
  split
  ·exact .any v
  ·rename_i hs
   exact h.reβ (0,y) (z3h β y _) (by simpa using hs)
 cases h with
 | ref q =>
  simp only[PV.ren]
  split
  ·rename_i e;simp at e;subst e
   have:=PR.ref (β:=z69 β y (β (0,x))) (w:=w) (own:=own) (0,y)
   rwa [z2d]at this
  ·split
   ·exact .any _
   ·rename_i e
    have:=PR.ref (β:=z69 β y (β (0,x))) (w:=w) (own:=own) q
    rwa [z3h _ _ _ _ (by simpa using e)]at this
 | ptr q off g h =>
  simp only[PV.ren]
  split
  ·rename_i e;simp at e;subst e
   exact .ptr (0,y) off g (by rw[z2d];exact h)
  ·split
   ·exact .any _
   ·rename_i e
    exact .ptr q off g (by rw[z3h _ _ _ _ (by simpa using e)];exact h)
 | any v=>exact gen (.any v)
 | d x v h=>exact gen (.d x v h)
 | eptr cs g o c a b e f=>exact gen (.eptr cs g o c a b e f)
 | rptr q k i off g len cap h=>exact gen (.rptr q k i off g len cap h)
 | rsub q k lo len L cap a h hl hc=>exact gen (.rsub q k lo len L cap a h hl hc)
 | al a b h v=>exact gen (.al a b h v)
 | agg cs vs a b c=>exact gen (.agg cs vs a b c)
 | tup cs vs a b=>exact gen (.tup cs vs a b)
 | fn f a b c d e g h i=>exact gen (.fn f a b c d e g h i)
 | yl m L h=>exact gen (.yl m L h)
 | full xs a h=>exact gen (.full xs a h)
theorem ziy{a b:Nat}:∀ {st:List (Nat × PV)} {t:Nat} {p:PV},(t,p)∈zc6 a b st→∃q,(t,q)∈st∧p=q.ren a b
 | [],t,p,h=>by simp[zc6]at h
 | (u,q)::r,t,p,h=>by
  simp only[zc6,zAc]at h
  rcases h with e|h
  ·simp at e;exact⟨q,by simp[e.1],e.2⟩
  ·obtain⟨q',h1,h2⟩:=ziy h;exact⟨q',by simp[h1],h2⟩
theorem Rep.ren{β:Nm→Value}{own:Nat→Prop}{ac:Act}{w:World}{a b:Nat}{q:Blk}(hab:a≠b)(hr:Rep ⟨n,tm,hp,up⟩ β own ac w)(hb:look hp a=some q)(hq:q.says (0,b)=false) :
 Rep ⟨n,zc6 a b tm,(b,q)::(a,.gone)::zdk a b hp,up⟩ (z69 β b (β (0,a))) own ac w:=by
 have hlook:z19 (push hp up) (0,a)=some q:=hb
 have hne:((0,a):Nm)≠(0,b):=by simpa using hab
 refine⟨hr.size,hr.defers,fun t p hp=>?_,?_⟩
 ·rw[zcb]at hp
  cases hc:look tm t with
  | none=>rw[hc]at hp;simp at hp
  | some c=>rw[hc]at hp;simp at hp;subst hp;exact(hr.tm t c hc).ren
 ·have key:∀m c,z19 (push ((b,q)::(a,.gone)::zdk a b hp) up) m=some c→c.live=true →
   (m=(0,b)∧c=q)∨(m≠(0,b)∧m≠(0,a)∧∃c',z19 (push hp up) m=some c'∧c'.live=true∧(c=c'.ren a b∨(c=c'∧c'.says (0,b)=false))):=by
   intro m c hm hl
   rw[z2t]at hm
   by_cases h1:m=(0,b)
   ·rw[zAz h1]at hm;simp at hm;exact .inl ⟨h1,hm.symm⟩
   ·rw[zAy h1,z2t]at hm
    by_cases h2:m=(0,a)
    ·rw[zAz h2]at hm;simp at hm;subst hm;cases hl
    ·rw[zAy h2]at hm
     refine .inr ⟨h1,h2,?_⟩
     obtain⟨md,mt⟩:=m
     cases md with
     | zero =>
      simp only[z19,push]at hm⊢
      rw[z9j]at hm
      cases hc:look hp mt with
      | none=>rw[hc]at hm;simp at hm
      | some c'=>rw[hc]at hm;simp at hm;subst hm;exact⟨c',rfl,by cases c' <;> first|rfl|exact hl,.inl rfl⟩
     | succ md =>
      refine⟨c,hm,hl,.inr ⟨rfl,?_⟩⟩
      simp only[z19,push]at hm
      cases hc:up md mt with
      | none=>rw[hc]at hm;simp at hm
      | some c'=>rw[hc]at hm;simp at hm;subst hm;exact Blk.lift_says b md c'
  refine⟨fun m c hm=>?_,fun m1 m2 c1 c2 h1 h2 l1 l2 hne' g hg=>?_,hr.heap.lt⟩
  ·cases hl:c.live with
   | false=>cases c <;> first|(simp[Blk.live]at hl;done)|exact .gone _
   | true =>
    rcases key m c hm hl with⟨rfl,rfl⟩|⟨h1,h2,c',hc',lc',hor⟩
    ·rw[z2d]
     exact(hr.heap.blk _ _ hlook).reβ (0,b) (z3h β b _) hq
    ·rw[z3h _ _ _ _ h1]
     have hk:=hr.heap.blk m c' hc'
     rcases hor with rfl|⟨rfl,hs⟩
     ·generalize β m=vm at hk
      cases hk with
      | box g t cs cur ho' hg' hl' h1 hd =>
       refine .box g t _ cur ho' hg' (by rw[zm3];exact hl') h1 fun j p v hp hv=>?_
       exact zD71
      | row _ e' k' xs' vs' a1 a2 a3 a4=>exact .row _ e' k' xs' vs' a1 a2 a3 a4
      | rowp _ e' cs vs' ho' hr' h1 hd =>
       refine .rowp _ e' _ vs' ho' (by rw[zm3];exact hr') h1 fun j p v hp hv=>?_
       exact zD71
      | siter g s pos ho hg=>exact .siter g s pos ho hg
      | gmap g cur clock ho hg=>exact .gmap g cur clock ho hg
      | mit h g since seen last ho hg=>exact .mit h g since seen last ho hg
      | glob g o ho hg hd=>exact .glob g o ho hg hd
      | mp g clock es cur ho hg hl2 hd hb hc=>exact .mp g clock es cur ho hg hl2 hd hb hc
      | lp g n' f ps asg body st state pending tmps df ho hg hl2 hd=>exact .lp g n' f ps asg body _ state pending tmps df ho hg hl2 fun t p hp=>(let ⟨q,h1,h2⟩:=ziy hp;h2▸(hd t q h1).ren)
      | gone _=>exact .gone _
     ·exact hk.reβ (0,b) (z3h β b _) hs
  ·rcases key m1 c1 h1 l1 with⟨rfl,rfl⟩|⟨n1,n1',c1',hc1,lc1,_⟩
   ·rcases key m2 c2 h2 l2 with⟨rfl,rfl⟩|⟨n2,n2',c2',hc2,lc2,_⟩
    ·exact absurd rfl hne'
    ·rw[z2d]at hg
     rw[z3h _ _ _ _ n2]
     exact hr.heap.inj (0,a) m2 _ c2' hlook hc2 l1 lc2 (Ne.symm n2') g hg
   ·rw[z3h _ _ _ _ n1]at hg
    rcases key m2 c2 h2 l2 with⟨rfl,rfl⟩|⟨n2,n2',c2',hc2,lc2,_⟩
    ·rw[z2d]
     exact hr.heap.inj m1 (0,a) c1' _ hc1 hlook lc1 l2 n1' g hg
    ·rw[z3h _ _ _ _ n2]
     exact hr.heap.inj m1 m2 c1' c2' hc1 hc2 lc1 lc2 hne' g hg
theorem z4n(a b:Nat){q:Blk}(hb:look hp a=some q)(hab:(!(a == b)&&!q.says (0,b))=true)(h:Run P f R k ⟨n,zc6 a b tm,(b,q)::(a,.gone)::zdk a b hp,up⟩):Run P f R k ⟨n,tm,hp,up⟩:=by
 simp only[zA7,zA6,beq_eq_false_iff_ne]at hab
 exact Run.step (fun β own ac w hr _ _=>⟨z69 β b (β (0,a)),own,ac,w,hr.ren hab.1 hb hab.2,Ext.refl _ _,z3a _ _ _,.refl _ _⟩) h
theorem z4h{id:Nat}{ops:List Oper}{s0:St}{done:List Eff}{j dd:Nat}{w t:Bool}(hj:(ops.toArray[j]?).bind (·.dst)=some dd)(hl:look tm dd=some (B t))
 (h1:t=true→Tr P f R id ops k s0 done ⟨n,tm,hp,up⟩ (⟨some d,op,ty,pos,aft,some (j,w)⟩::l)) (h2:t=false→Tr P f R id ops k s0 done ⟨n,tm,hp,up⟩ (⟨some d,op,ty,pos,aft,some (j,w)⟩::l)) :
 Tr P f R id ops k s0 done ⟨n,tm,hp,up⟩ (⟨some d,op,ty,pos,aft,some (j,w)⟩::l):=by
 cases t with
 | true=>exact h1 rfl
 | false=>exact h2 rfl
section
variable{id:Nat}{ops:List Oper}{s0:St}{done:List Eff}{g:FuncId}{args:List Operand}{ps:List PV}{ats:Array TypeId}{gr:List (Nat × PV)}{p:PV}
theorem y5g(hsp:z0q P g ps p)(hg:GOK ops.toArray gd gr ⟨n,tm,hp,up⟩)(hev:St.evs ⟨n,tm,hp,up⟩ args=some ps)(hd:d<n)
 (h:Tr P f R id ops k s0 (done++[⟨gr++rd (args.zip ps),[],[],[(d,p)],[]⟩]) ⟨n,(d,p)::tm,hp,up⟩ l):Tr P f R id ops k s0 done ⟨n,tm,hp,up⟩ (⟨some d,.call ⟨.value (.func g),args.toArray,ats⟩,ty,pos,aft,gd⟩::l) :=
 zcj (z0q.eff hsp) hg hev rfl hd rfl h
theorem znc{ms:Nat}{b b':Blk}(hsp:z1v P g ps [((0,ms),b)] [((0,ms),b')] p)(hg:GOK ops.toArray gd gr ⟨n,tm,hp,up⟩)(hev:St.evs ⟨n,tm,hp,up⟩ args=some ps)(hb:look hp ms=some b)(hd:d<n)
 (h:Tr P f R id ops k s0 (done++[⟨gr++rd (args.zip ps),[((0,ms),b)],[],[(d,p)],[((0,ms),b')]⟩]) ⟨n,(d,p)::tm,(ms,b')::hp,up⟩ l):Tr P f R id ops k s0 done ⟨n,tm,hp,up⟩ (⟨some d,.call ⟨.value (.func g),args.toArray,ats⟩,ty,pos,aft,gd⟩::l) :=
 zcj hsp hg hev (by simp[BkE,z5e,push,hb]) hd rfl h
theorem za1{ms:Nat}{b b':Blk}(hsp:z1v P g ps [((0,ms),b)] [((0,ms),b')] p)(hev:St.evs ⟨n,tm,hp,up⟩ args=some ps)(hb:look hp ms=some b)(hd:d<n)
 (h:Ops P f R all l k ⟨n,(d,p)::tm,(ms,b')::hp,up⟩):Op1 P f R all ⟨some d,.call ⟨.value (.func g),args.toArray,ats⟩,ty,pos,aft,gd⟩ l k ⟨n,tm,hp,up⟩ :=
 zj7 hsp hev (by simp[BkE,z5e,push,hb]) hd rfl h
theorem zs0{md ms:Nat}{b b':Blk}(hsp:z1v P g ps [((md+1,ms),b)] [((md+1,ms),b')] p)(hev:St.evs ⟨n,tm,hp,up⟩ args=some ps)(hb:up md ms=some b)(hd:d<n)
 (h:Ops P f R all l k ⟨n,(d,p)::tm,hp,upd up (md,ms) b'⟩):Op1 P f R all ⟨some d,.call ⟨.value (.func g),args.toArray,ats⟩,ty,pos,aft,gd⟩ l k ⟨n,tm,hp,up⟩ :=
 zj7 hsp hev (by simp[BkE,z5e,push,hb]) hd rfl h
theorem z4s(H:Hf)(m:Nm)(b:Blk):upd H m b m.1 m.2=some b:=by simp[upd]
theorem z3g(H:Hf)(m:Nm)(b b':Blk):upd (upd H m b) m b'=upd H m b':=by
 funext d s
 simp only[upd]
 split <;> rfl
end
end Go.Ab
namespace Go.Ab
variable{P:Program}{f:FuncId}{R:z4b}{k:List Item}{all:Array Oper}{o:Oper}{l:List Oper}
variable{n:Nat}{tm:List (Nat × PV)}{hp:Hp}{up:Hf}{d:Nat}{ty:TypeId}{pos:String}{aft:Array Edge}{gd:Option (Nat × Bool)}{op:Op}{p:PV}
def y6f:BinOp→Value→Value→Option Value
 | .lss,.int k a,.int k' b=>if k=k' then some (.bool (decide (a<b)))else none
 | .leq,.int k a,.int k' b=>if k=k' then some (.bool (decide (a≤b)))else none
 | .gtr,.int k a,.int k' b=>if k=k' then some (.bool (decide (b<a)))else none
 | .geq,.int k a,.int k' b=>if k=k' then some (.bool (decide (b≤a)))else none
 | .eql,.int k a,.int k' b=>if k=k' then some (.bool (decide (a=b)))else none
 | .neq,.int k a,.int k' b=>if k=k' then some (.bool (!decide (a=b)))else none
 | .eql,.string a,.string b=>some (.bool (decide (a=b)))
 | .neq,.string a,.string b=>some (.bool (!decide (a=b)))
 | _,_,_=>none
def sv0(s:St):Op→Option (List (Operand × PV) × PV)
 | .move x=>match s.ev x with
  | some p=>some ([(x,p)],p)
  | none=>some ([],.any)
 | .assign x=>match s.ev x with
  | some p=>some ([(x,p)],p)
  | none=>none
 | .pick c x y=>match s.ev c with
  | some (.d (.lit (.bool true)))=>(match s.ev x with|some p=>some ([(c,B true),(x,p)],p)|none=>none)
  | some (.d (.lit (.bool false)))=>(match s.ev y with|some p=>some ([(c,B false),(y,p)],p)|none=>none)
  | _=>none
 | .binOp op _ x y _=>match s.ev x with
  | some (.d (.lit u))=>(match s.ev y with
   | some (.d (.lit v))=>(match y6f op u v with
    | some r=>some ([(x,.d (.lit u)),(y,.d (.lit v))],.d (.lit r))
    | none=>none)
   | _=>none)
  | _=>none
 | .unOp .not _ x=>match s.ev x with
  | some (.d (.lit (.bool b)))=>some ([(x,B b)],B (!b))
  | _=>none
 | .nilCheck x=>match s.ev x with
  | some (.ptr m o)=>some ([(x,.ptr m o)],.ptr m o)
  | some (.eptr cs)=>some ([(x,.eptr cs)],.eptr cs)
  | _=>none
 | .extract x i=>match s.ev x with
  | some (.tup ps)=>(match ps[i]? with|some p=>some ([(x,.tup ps)],p)|none=>none)
  | _=>none
 | _=>none
theorem zn1{s:St}{xs:List (Operand × PV)}(h:sv0 s op=some (xs,p)):Val P op ty xs [] p∧Evs s xs:=by
 cases op <;> simp only[sv0]at h
 case move x =>
  split at h
  ·simp at h;obtain⟨rfl,rfl⟩:=h;exact⟨y31,by assumption,trivial⟩
  ·simp at h;obtain⟨rfl,rfl⟩:=h;exact⟨y4y,trivial⟩
 case assign x =>
  split at h
  ·simp at h;obtain⟨rfl,rfl⟩:=h;exact⟨zum,by assumption,trivial⟩
  ·simp at h
 case pick c x y =>
  split at h
  ·split at h
   ·simp at h;obtain⟨rfl,rfl⟩:=h;exact⟨ztk,by assumption,by assumption,trivial⟩
   ·simp at h
  ·split at h
   ·simp at h;obtain⟨rfl,rfl⟩:=h;exact⟨zui,by assumption,by assumption,trivial⟩
   ·simp at h
  ·simp at h
 case binOp op tx x y ty' =>
  split at h
  ·split at h
   ·split at h
    ·rename_i hr
     simp at h
     obtain⟨rfl,rfl⟩:=h
     refine⟨?_,by assumption,by assumption,trivial⟩
     unfold y6f at hr
     split at hr
     all_goals first
      | (split at hr
         ·rename_i e;subst e;simp at hr;subst hr;first|exact y5k|exact y5u|exact y5e|exact y4u|exact y4p|exact y5o
         ·cases hr)
      | (simp at hr;subst hr;first|exact y2z|exact y1h)
      | cases hr
    ·simp at h
   ·simp at h
  ·simp at h
 case unOp op tx x =>
  cases op <;> simp only at h
  case not =>
   split at h
   ·simp at h;obtain⟨rfl,rfl⟩:=h;exact⟨y5v,by assumption,trivial⟩
   ·simp at h
  all_goals cases h
 case nilCheck x =>
  split at h
  ·simp at h;obtain⟨rfl,rfl⟩:=h;exact⟨zy5,by assumption,trivial⟩
  ·simp at h;obtain⟨rfl,rfl⟩:=h;exact⟨zue,by assumption,trivial⟩
  ·simp at h
 case extract x i =>
  split at h
  ·split at h
   ·simp at h;obtain⟨rfl,rfl⟩:=h;exact⟨zra (by assumption),by assumption,trivial⟩
   ·simp at h
  ·simp at h
 all_goals cases h
theorem zhy{s:St}:∀ {xs:List (Operand × PV)},Evs s xs→EvE s xs
 | [],_=>rfl
 | (x,p)::r,h=>by simp[EvE,St.evs,h.1,zhy h.2]
theorem y6p{xs:List (Operand × PV)}(h:sv0 ⟨n,tm,hp,up⟩ op=some (xs,p))(hd:d<n)(hk:Ops P f R all l k ⟨n,(d,p)::tm,hp,up⟩) :
 Op1 P f R all ⟨some d,op,ty,pos,aft,gd⟩ l k ⟨n,tm,hp,up⟩ :=
 let ⟨h1,h2⟩:=zn1 (P:=P) (ty:=ty) h
 zns h1 (zhy h2) rfl hd hk
theorem z0n{xs:List (Operand × PV)}(hk:Ops P f R all l k ⟨n,(d,p)::tm,hp,up⟩)(h:sv0 ⟨n,tm,hp,up⟩ op=some (xs,p):=by exact rfl)(hd:d<n:=by decide):Op1 P f R all ⟨some d,op,ty,pos,aft,gd⟩ l k ⟨n,tm,hp,up⟩:=y6p h hd hk
theorem y6n{id:Nat}{ops:List Oper}{s0:St}{done:List Eff}{gr:List (Nat × PV)}{xs:List (Operand × PV)}(h:sv0 ⟨n,tm,hp,up⟩ op=some (xs,p))(hg:GOK ops.toArray gd gr ⟨n,tm,hp,up⟩)(hd:d<n)
 (hk:Tr P f R id ops k s0 (done++[⟨gr++rd xs,[],[],[(d,p)],[]⟩]) ⟨n,(d,p)::tm,hp,up⟩ l):Tr P f R id ops k s0 done ⟨n,tm,hp,up⟩ (⟨some d,op,ty,pos,aft,gd⟩::l) :=
 let ⟨h1,h2⟩:=zn1 (P:=P) (ty:=ty) h
 zos h1 hg (zhy h2) rfl hd hk
theorem z2w{id:Nat}{ops:List Oper}{s0:St}{done:List Eff}{gr:List (Nat × PV)}{xs:List (Operand × PV)}(hk:Tr P f R id ops k s0 (done++[⟨gr++rd xs,[],[],[(d,p)],[]⟩]) ⟨n,(d,p)::tm,hp,up⟩ l)(h:sv0 ⟨n,tm,hp,up⟩ op=some (xs,p):=by exact rfl)(hg:GOK ops.toArray gd gr ⟨n,tm,hp,up⟩:=by first|exact rfl|exact⟨_,rfl,rfl,rfl⟩)(hd:d<n:=by decide):Tr P f R id ops k s0 done ⟨n,tm,hp,up⟩ (⟨some d,op,ty,pos,aft,gd⟩::l):=y6n h hg hd hk
end Go.Ab
namespace Go.Ab
variable{P:Program}{f:FuncId}{R:z4b}{k:List Item}{all:Array Oper}{o:Oper}{l:List Oper}
variable{n:Nat}{tm:List (Nat × PV)}{hp:Hp}{up:Hf}{d:Nat}{ty:TypeId}{pos:String}{aft:Array Edge}{gd:Option (Nat × Bool)}{op:Op}{p:PV}
theorem Le.as{t:Nat}{p q:PV}(hl:look tm t=some p)(hq:∀β w own v,PR β w own p v→PR β w own q v):Le ⟨n,tm,hp,up⟩ ⟨n,(t,q)::tm,hp,up⟩:=fun β own a w hr=>⟨β,rfl,hr.size,hr.defers,fun u x hu=>by
 simp only[look]at hu
 split at hu
 ·rename_i e;have e':t=u:=by simpa using e
  subst e';simp at hu;subst hu;exact hq _ _ _ _ (hr.tm t p hl)
 ·exact hr.tm u x hu,hr.heap⟩
theorem y6w(t:Nat){p q:PV}(hl:look tm t=some p)(hq:∀β w own v,PR β w own p v→PR β w own q v)(h:Run P f R k ⟨n,(t,q)::tm,hp,up⟩):Run P f R k ⟨n,tm,hp,up⟩:=Run.le (Le.as hl hq) h
theorem y26(t:Nat)(hl:look tm t=some (.d (.lit z1t)))(h:Run P f R k ⟨n,(t,.d (.slice []))::tm,hp,up⟩):Run P f R k ⟨n,tm,hp,up⟩ :=
 y6w t hl (fun _ _ _ v h=>by rw[h.lit];exact .d _ _ (.nil none 0)) h
theorem zeb:∀(l:List (Nat × Operand)) (ps:List PV),z52 l ps=(l.map (·.2)).zip ps
 | [],ps=>by cases ps <;> simp[z52]
 | (i,x)::r,[]=>by simp[z52]
 | (i,x)::r,p::ps=>by simp[z52,zeb r ps]
theorem z5v{s:St}{lp:List (Nat × Operand)}{ps:List PV}(h:s.evs (lp.map (·.2))=some ps):EvE s (z52 lp ps):=by
 rw[zeb];exact zhy (z7d h).1
section
variable{t e:TypeId}{ti te:TI}{lp:List (Nat × Operand)}{ps:List PV}{qs:List (Nat × List PV)}{cs:List PV}{len:Nat}{ds:List D}{ys:List (List D)}
def z8l(te:TI)(len:Nat):Bool:=te.zero.all (·.oneCell')&&te.zero.length == te.size&&te.size != 0&&decide (len*te.size≤16777216)
def zgf(ti:TI):Bool:=ti.zero.all (·.oneCell')&&ti.fields.all (fun q=>q.2 != 0)
theorem y59 [ht:z1d P t ti][he:z1d P e te](hk:ti.kind=.slice e)(hev:St.evs ⟨n,tm,hp,up⟩ (lp.map (·.2))=some ps)(hq:z2x lp ps=some qs)(hn:z55 ps=true)(hf:z61 (fun i=>some (i*te.size,te.size)) (z6c te.zero (len*te.size)) qs=some cs)
 (hm:z8d cs=some ds) (hxs:chunk te.size len ds=ys) (hz:z8l te len=true) (hd:d<n) (h:Ops P f R all l k ⟨n,(d,.d (.slice ys))::tm,hp,up⟩) :
 Op1 P f R all ⟨some d,.buildSlice t len lp.toArray,ty,pos,aft,gd⟩ l k ⟨n,tm,hp,up⟩ :=
 zns (y1g hq hn hf hm hxs hk hz) (z5v hev) rfl hd h
theorem z3b [ht:z1d P t ti][he:z1d P e te](hk:ti.kind=.slice e)(h:Ops P f R all l k ⟨n,(d,.d (.slice ys))::tm,hp,up⟩)(hev:St.evs ⟨n,tm,hp,up⟩ (lp.map (·.2))=some ps:=by exact rfl)(hq:z2x lp ps=some qs:=by exact rfl)(hn:z55 ps=true:=by exact rfl)(hf:z61 (fun i=>some (i*te.size,te.size)) (z6c te.zero (len*te.size)) qs=some cs:=by exact rfl)(hm:z8d cs=some ds:=by exact rfl)(hxs:chunk te.size len ds=ys:=by exact rfl)(hz:z8l te len=true:=by exact rfl)(hd:d<n:=by decide):Op1 P f R all ⟨some d,.buildSlice t len lp.toArray,ty,pos,aft,gd⟩ l k ⟨n,tm,hp,up⟩:=y59 hk hev hq hn hf hm hxs hz hd h
theorem y53{id:Nat}{ops:List Oper}{s0:St}{done:List Eff}{gr:List (Nat × PV)}[ht:z1d P t ti][he:z1d P e te](hg:GOK ops.toArray gd gr ⟨n,tm,hp,up⟩)(hk:ti.kind=.slice e)(hev:St.evs ⟨n,tm,hp,up⟩ (lp.map (·.2))=some ps)(hq:z2x lp ps=some qs)(hn:z55 ps=true)(hf:z61 (fun i=>some (i*te.size,te.size)) (z6c te.zero (len*te.size)) qs=some cs)
 (hm:z8d cs=some ds) (hxs:chunk te.size len ds=ys) (hz:z8l te len=true) (hd:d<n)
 (h:Tr P f R id ops k s0 (done++[⟨gr++rd (z52 lp ps),[],[],[(d,.d (.slice ys))],[]⟩]) ⟨n,(d,.d (.slice ys))::tm,hp,up⟩ l):Tr P f R id ops k s0 done ⟨n,tm,hp,up⟩ (⟨some d,.buildSlice t len lp.toArray,ty,pos,aft,gd⟩::l) :=
 zos (y1g hq hn hf hm hxs hk hz) hg (z5v hev) rfl hd h
theorem z7w{id:Nat}{ops:List Oper}{s0:St}{done:List Eff}{gr:List (Nat × PV)}[ht:z1d P t ti][he:z1d P e te](hk:ti.kind=.slice e)(h:Tr P f R id ops k s0 (done++[⟨gr++rd (z52 lp ps),[],[],[(d,.d (.slice ys))],[]⟩]) ⟨n,(d,.d (.slice ys))::tm,hp,up⟩ l)(hg:GOK ops.toArray gd gr ⟨n,tm,hp,up⟩:=by first|exact rfl|exact⟨_,rfl,rfl,rfl⟩)(hev:St.evs ⟨n,tm,hp,up⟩ (lp.map (·.2))=some ps:=by exact rfl)(hq:z2x lp ps=some qs:=by exact rfl)(hn:z55 ps=true:=by exact rfl)(hf:z61 (fun i=>some (i*te.size,te.size)) (z6c te.zero (len*te.size)) qs=some cs:=by exact rfl)(hm:z8d cs=some ds:=by exact rfl)(hxs:chunk te.size len ds=ys:=by exact rfl)(hz:z8l te len=true:=by exact rfl)(hd:d<n:=by decide):Tr P f R id ops k s0 done ⟨n,tm,hp,up⟩ (⟨some d,.buildSlice t len lp.toArray,ty,pos,aft,gd⟩::l):=y53 hg hk hev hq hn hf hm hxs hz hd h
theorem zzd{p:PV}[ht:z1d P t ti](hk:ti.kind=.struct)(hev:St.evs ⟨n,tm,hp,up⟩ (lp.map (·.2))=some ps)(hq:z2x lp ps=some qs)(hn:z55 ps=true)(hf:z61 (fun i=>ti.fields[i]?) (z5q ti.zero) qs=some cs)(hm:mk cs=p)
 (hz:zgf ti=true) (hd:d<n) (h:Ops P f R all l k ⟨n,(d,p)::tm,hp,up⟩):Op1 P f R all ⟨some d,.build t lp.toArray,ty,pos,aft,gd⟩ l k ⟨n,tm,hp,up⟩ :=
 zns (zpv hq hn hf hm hk hz) (z5v hev) rfl hd h
theorem z2y{p:PV}[ht:z1d P t ti](h:Ops P f R all l k ⟨n,(d,p)::tm,hp,up⟩)(hk:ti.kind=.struct:=by exact rfl)(hev:St.evs ⟨n,tm,hp,up⟩ (lp.map (·.2))=some ps:=by exact rfl)(hq:z2x lp ps=some qs:=by exact rfl)(hn:z55 ps=true:=by exact rfl)(hf:z61 (fun i=>ti.fields[i]?) (z5q ti.zero) qs=some cs:=by exact rfl)(hm:mk cs=p:=by exact rfl)(hz:zgf ti=true:=by exact rfl)(hd:d<n:=by decide):Op1 P f R all ⟨some d,.build t lp.toArray,ty,pos,aft,gd⟩ l k ⟨n,tm,hp,up⟩:=zzd hk hev hq hn hf hm hz hd h
theorem zds{p:PV}{id:Nat}{ops:List Oper}{s0:St}{done:List Eff}{gr:List (Nat × PV)}[ht:z1d P t ti](hg:GOK ops.toArray gd gr ⟨n,tm,hp,up⟩)(hk:ti.kind=.struct)(hev:St.evs ⟨n,tm,hp,up⟩ (lp.map (·.2))=some ps)(hq:z2x lp ps=some qs)(hn:z55 ps=true)
 (hf:z61 (fun i=>ti.fields[i]?) (z5q ti.zero) qs=some cs) (hm:mk cs=p) (hz:zgf ti=true) (hd:d<n)
 (h:Tr P f R id ops k s0 (done++[⟨gr++rd (z52 lp ps),[],[],[(d,p)],[]⟩]) ⟨n,(d,p)::tm,hp,up⟩ l):Tr P f R id ops k s0 done ⟨n,tm,hp,up⟩ (⟨some d,.build t lp.toArray,ty,pos,aft,gd⟩::l) :=
 zos (zpv hq hn hf hm hk hz) hg (z5v hev) rfl hd h
theorem zi0 [ht:z1d P t ti][he:z1d P e te](hk:ti.kind=.slice e)(hev:St.evs ⟨n,tm,hp,up⟩ (lp.map (·.2))=some ps)(hq:z2x lp ps=some qs)(hn:z55 ps=true)(hf:z61 (fun i=>some (i*te.size,te.size)) (z6c te.zero (len*te.size)) qs=some cs)
 (hm:z8d cs=some ds) (hxs:chunk te.size len ds=ys) (hz:z8l te len=true) (hfr:(z1k d hp&&z1q d tm)=true) (hd:d<n) (h:Ops P f R all l k ⟨n,(d,.ref (0,d))::tm,(d,.row e te.size ys)::hp,up⟩) :
 Op1 P f R all ⟨some d,.buildSlice t len lp.toArray,ty,pos,aft,gd⟩ l k ⟨n,tm,hp,up⟩:=by
 obtain⟨h1,h2⟩:=z9l (evE (z5v hev)) hq hn
 exact z0b (zja h1 h2 hf hm hxs hk hz hfr hd) h
theorem zwc{id:Nat}{ops:List Oper}{s0:St}{done:List Eff}{gr:List (Nat × PV)}[ht:z1d P t ti][he:z1d P e te](hg:GOK ops.toArray gd gr ⟨n,tm,hp,up⟩)(hk:ti.kind=.slice e)(hev:St.evs ⟨n,tm,hp,up⟩ (lp.map (·.2))=some ps)(hq:z2x lp ps=some qs)(hn:z55 ps=true)(hf:z61 (fun i=>some (i*te.size,te.size)) (z6c te.zero (len*te.size)) qs=some cs)
 (hm:z8d cs=some ds) (hxs:chunk te.size len ds=ys) (hz:z8l te len=true) (hfr:(z1k d hp&&z1q d tm)=true) (hd:d<n)
 (h:Tr P f R id ops k s0 (done++[⟨gr++rd (z52 lp ps),[],[d],[(d,.ref (0,d))],[((0,d),.row e te.size ys)]⟩]) ⟨n,(d,.ref (0,d))::tm,(d,.row e te.size ys)::hp,up⟩ l) :
 Tr P f R id ops k s0 done ⟨n,tm,hp,up⟩ (⟨some d,.buildSlice t len lp.toArray,ty,pos,aft,gd⟩::l):=by
 refine zre (xs:=z52 lp ps) (bs:=[]) hg (fun s hs hx hb hf'=>?_) (z5v hev) rfl hfr rfl h
 obtain⟨n',tm',hp',up'⟩:=s;simp only at hs;subst hs
 obtain⟨h1,h2⟩:=z9l hx hq hn
 exact zja h1 h2 hf hm hxs hk hz hf' hd
end
theorem zcr{x y:Operand}{ats:Array TypeId}{kk:IntKind}{a b:Int}:Val P (.call ⟨.builtin .min,#[x,y],ats⟩) ty [(x,I kk a),(y,I kk b)] [] (I kk (min a b)):=fun d pos aft gd n tm hp up hd hx hb =>
 z1c rfl hd fun β own ac w hr=>by
  have h1:=(hr.ev hx.1).lit
  have h2:=(hr.ev hx.2.1).lit
  refine⟨.int kk (min a b),?_,.I _ _⟩
  have:min a b=if b<a then b else a:=by omega
  simp[execOp,resolve,invoke,builtin,Builtin.min_,Builtin.min2,h1,h2,this]
theorem z84{x y:Operand}{ats:Array TypeId}{kk:IntKind}{a b:Int}:Val P (.call ⟨.builtin .max,#[x,y],ats⟩) ty [(x,I kk a),(y,I kk b)] [] (I kk (max a b)):=fun d pos aft gd n tm hp up hd hx hb =>
 z1c rfl hd fun β own ac w hr=>by
  have h1:=(hr.ev hx.1).lit
  have h2:=(hr.ev hx.2.1).lit
  refine⟨.int kk (max a b),?_,.I _ _⟩
  have:max a b=if a<b then b else a:=by omega
  simp[execOp,resolve,invoke,builtin,Builtin.max_,Builtin.max2,h1,h2,this]
theorem z9n.one{w:World}{own:Nat→Prop}{kk:Nat}{xs:List (List D)}{vs:List Value}(h:z9n w own kk xs vs){e:TypeId}{v:Value}(ho:w.ownsRow 0 e kk v xs.length vs){i:Nat}{y:List D}(hy:xs[i]? =some y) :
 ∃g cap cur,v=.slice (some ⟨g,0,none⟩) xs.length cap∧w.heap[g]? =some (.cells cur e (0,0))∧cur.toList.take (xs.length*kk)=vs∧(∀j u,vs[j]? =some u→w.cell? ⟨g,j,none⟩=some u):=by
 rcases ho.2 with⟨_,h0⟩|⟨g,cap,cur,hv,_,hg,hle,_,hsz,htake⟩
 ·have:=(zA1.1 hy).1;omega
 ·refine⟨g,cap,cur,hv,hg,htake,fun j u hj=>?_⟩
  exact zD92
section
variable{t e e':TypeId}{ti te:TI}{x y:Operand}{kk':IntKind}{a:Int}{m:Nm}{kk:Nat}{ys:List (List D)}
theorem z7h [ht:z1d P t ti][he:z1d P e te](hk:ti.kind=.slice e)(h0:0≤a)(h1:a<ys.length)(hkk:te.size=kk):Val P (.indexAddr t x y) ty [(x,.ref m),(y,I kk' a)] [(m,.row e' kk ys)] (.rptr m kk a.toNat 0):=fun d pos aft gd n tm hp up hd hx hb =>
 z1c rfl hd fun β own ac w hr=>by
  obtain⟨vs,ho,hk0,hown,hrr⟩:=hr.row ((z30 hb.1).trans (by rw[z7q]))
  obtain⟨y0,hy0⟩:∃y0,ys[a.toNat]? =some y0:=⟨_,zA0 (by omega)⟩
  obtain⟨g,cap,cur,hv,hg,htake,hcell⟩:=hrr.one hown hy0
  have hxv:=hr.ev hx.1
  generalize hv':ac.eval x=v at hxv
  cases hxv with
  | ref _ =>
   refine⟨.pointer (some ⟨g,a.toNat*kk+0,none⟩),?_,.rptr m kk a.toNat 0 g _ cap hv⟩
   exact zD64
theorem z4r [ht:z1d P t ti][he:z1d P e te](hk:ti.kind=.slice e)(h1:a<ys.length)(h0:0≤a:=by omega)(hkk:te.size=kk:=by exact rfl):Val P (.indexAddr t x y) ty [(x,.ref m),(y,I kk' a)] [(m,.row e' kk ys)] (.rptr m kk a.toNat 0):=z7h hk h0 h1 hkk
theorem zx0{β:Nm→Value}{own:Nat→Prop}{ac:Act}{w:World}{s:St}(hr:Rep s β own ac w){m:Nm}{b:Blk}(hb:z5e s m=some (.row e' kk ys)){i off:Nat}{z:List D}(hz:ys[i]? =some z){v:Value}(hx:PR β w own (.rptr m kk i off) v) :
 ∃g,v=.pointer (some ⟨g,i*kk+off,none⟩)∧∀j u,z[j]? =some u→∃c,w.cell? ⟨g,i*kk+j,none⟩=some c∧c.oneCell'=true∧DR w own u c:=by
 obtain⟨vs,ho,hk0,hown,hrr⟩:=hr.row ((z30 hb).trans (by rw[z7q]))
 obtain⟨g,cap,cur,hv,hg,htake,hcell⟩:=hrr.one hown hz
 cases hx with
 | rptr _ _ _ _ g' len' cap' h' =>
  rw[hv]at h';simp at h'
  obtain⟨rfl,_,_⟩:=h'
  refine⟨g,rfl,fun j u hj=>?_⟩
  obtain⟨c,hc,hdr⟩:=hrr.2.2.2 i z hz j u hj
  exact⟨c,hcell _ _ hc,hrr.2.2.1 c (zA2 hc),hdr⟩
theorem z96{i off:Nat}{z:List D}{u:D}[ht:z1d P t ti](hz:ys[i]? =some z)(hu:z[off]? =some u)(hs:ti.size=1)(ha:ti.agg=false):Val P (.load t x) ty [(x,.rptr m kk i off)] [(m,.row e' kk ys)] (.d u):=fun d pos aft gd n tm hp up hd hx hb =>
 z1c rfl hd fun β own ac w hr=>by
  have hxv:=hr.ev hx.1
  obtain⟨g,hg,hcells⟩:=zx0 (b:=.gone) hr hb.1 hz hxv
  obtain⟨c,hc,h1,hdr⟩:=hcells off u hu
  have:=z27 (P:=P) ht g (i*kk+off) [c] w (by simp[hs]) (fun j v hv=>by
   cases j with
   | zero=>simp at hv;subst hv;exact hc
   | succ j=>simp at hv)
  rcases this with h|h
  ·exact⟨c,by simp only[execOp,hg,Instr.loadAt,Instr.sureAddr];simp[h,ha],.d _ _ hdr⟩
  ·exact absurd hs h.2
theorem ztm{i off:Nat}{z:List D}{us:List D}[ht:z1d P t ti](hz:ys[i]? =some z)(hu:(z.drop off).take ti.size=us)(hs:us.length=ti.size)(ha:ti.agg=true):Val P (.load t x) ty [(x,.rptr m kk i off)] [(m,.row e' kk ys)] (.d (.agg us)):=fun d pos aft gd n tm hp up hd hx hb =>
 z1c rfl hd fun β own ac w hr=>by
  have hxv:=hr.ev hx.1
  obtain⟨g,hg,hcells⟩:=zx0 (b:=.gone) hr hb.1 hz hxv
  have hget:∀j,j<us.length→∃u,us[j]? =some u∧z[off+j]? =some u:=fun j hj=>by
   refine⟨_,zA0 hj,?_⟩
   have h1:us[j]? =some us[j]:=zA0 hj
   rw[←h1,←hu,List.getElem?_take,zAz (by omega),List.getElem?_drop]
  have hex:∀j,∃c,j<us.length→w.cell? ⟨g,i*kk+off+j,none⟩=some c∧c.oneCell'=true∧∀u,us[j]? =some u→DR w own u c:=fun j=>by
   by_cases hj:j<us.length
   ·obtain⟨u,h1,h2⟩:=hget j hj
    obtain⟨c,hc,ho,hdr⟩:=hcells (off+j) u h2
    refine⟨c,fun _=>⟨by rw[Nat.add_assoc];exact hc,ho,fun u' hu'=>?_⟩⟩
    rw[h1]at hu';simp at hu';subst hu';exact hdr
   ·exact⟨undef,fun h=>absurd h hj⟩
  obtain⟨c,hc⟩:=Classical.axiomOfChoice hex
  have:=z27 (P:=P) ht g (i*kk+off) ((List.range us.length).map c) w (by simp[hs]) (fun j v hv=>by
   simp only[zAd]at hv
   by_cases hj:j<us.length
   ·rw[List.getElem?_range hj]at hv;simp at hv;subst hv;exact(hc j hj).1
   ·rw[zAv (by simpa using hj)]at hv;cases hv)
  rcases this with h|h
  ·refine⟨.agg ((List.range us.length).map c).toArray,by simp only[execOp,hg,Instr.loadAt,Instr.sureAddr];simp[h,ha],.d _ _ (.agg _ _ (by simp) (fun v hv=>?_) fun j x v hx hv=>?_)⟩
   ·simp only[List.mem_map,List.mem_range]at hv
    obtain⟨j,hj,rfl⟩:=hv
    exact(hc j hj).2.1
   ·have hj:=(zA1.1 hx).1
    simp only[zAd,List.getElem?_range hj]at hv
    simp at hv;subst hv
    exact(hc j hj).2.2 x hx
  ·rw[ha]at h;cases h.1
theorem zv5{i:Nat}{z:List D}[ht:z1d P t ti](hz:ys[i]? =some z)(hs:z.length=ti.size)(ha:ti.agg=true):Val P (.load t x) ty [(x,.rptr m kk i 0)] [(m,.row e' kk ys)] (.d (.agg z)) :=
 ztm hz (by rw[List.drop_zero,←hs];exact List.take_of_length_le (zAj _)) hs ha
end
theorem HR.change{H:Hf}{β:Nm→Value}{own:Nat→Prop}{w w':World}(h:HR H β own w){m:Nm}{b0 raw:Blk}(hl:z19 H m=some b0)(l0:b0.live=true)(he:Ext w own w' own)(hsz:w'.heap.size=w.heap.size)
 (hoth:∀g,z2h (β m)≠some g→w'.heap[g]? =w.heap[g]?) (hbr:BR β w' own (β m) (atF m raw)):HR (upd H m raw) β own w':=by
 refine⟨fun x b hx=>?_,fun x y bx by' hx hy lx ly hne g' hg'=>?_,fun g' hg'=>by rw[hsz];exact h.lt g' hg'⟩
 ·rw[z3q]at hx
  by_cases hxm:x=m
  ·subst hxm
   rw[zAz rfl]at hx
   simp at hx;subst hx
   exact hbr
  ·rw[zAy hxm]at hx
   refine(h.blk x b hx).kept he fun lb g' hg'=>⟨hoth g' fun e=>?_,(h.blk x b hx).block_lt lb hg'⟩
   exact h.inj x m b _ hx hl lb l0 hxm g' hg' e
 ·rw[z3q]at hx hy
  have hm:∀z bz,(if z=m then some (atF m raw)else z19 H z)=some bz→bz.live=true→∃b',z19 H z=some b'∧b'.live=true:=by
   intro z bz hz lz
   by_cases e:z=m
   ·subst e;exact⟨_,hl,l0⟩
   ·rw[zAy e]at hz;exact⟨bz,hz,lz⟩
  exact zD105
theorem zad{α:Type}(cs ps:List α)(off q:Nat)(h1:off+ps.length≤q)(h2:q≤cs.length):(z1b cs off ps).take q=z1b (cs.take q) off ps:=by
 apply List.ext_getElem?
 intro j
 rw[List.getElem?_take,z34 _ _ _ (by omega),z34 _ _ _ (by rw[zAm];omega),List.getElem?_take]
 by_cases hj:j<q
 ·simp[hj]
 ·have:¬(off≤j∧j<off+ps.length):=by omega
  simp[hj,this]
theorem zeh{s:St}{t e':TypeId}{ti:TI}(ht:z1d P t ti){x y:Operand}{m:Nm}{kk i off:Nat}{p:PV}{ys:List (List D)}{z:List D}{ps:List PV}{ds:List D}(hx:s.ev x=some (.rptr m kk i off))(hy:s.ev y=some p)(hb:z5e s m=some (.row e' kk ys))
 (hp:cellsOf p=some ps) (hds:z8d ps=some ds) (hz:ys[i]? =some z) (hs:ds.length=ti.size) (hf:off+ds.length≤kk) :
 z1z P ⟨none,.store t x y,ty,pos,aft,gd⟩ s (s.setB m (.row e' kk (ys.set i (z1b z off ds)))):=by
 intro β own a w hr
 have hlook:=(z30 hb).trans (by rw[z7q])
 obtain⟨vs,ho,hk0,hown,hrr⟩:=hr.row hlook
 obtain⟨g,cap,cur,hv,hg,htake,hcell⟩:=hrr.one hown hz
 have hi:=(zA1.1 hz).1
 have hzk:z.length=kk:=hrr.1 z (zA2 hz)
 have hxv:=hr.ev hx
 generalize hv':a.eval x=v at hxv
 cases hxv with
 | rptr _ _ _ _ g' len' cap' h' =>
  rw[hv]at h';simp at h'
  obtain⟨rfl,_,_⟩:=h'
  have hokr:∀m':Nm,p=.ref m'→(β m').oneCell'=true:=fun m' e=>by
   subst e;simp[cellsOf]at hp;subst hp;simp[z8d]at hds
  have hcells0:=z8p (hr.ev hy) hokr hp
  have hcr0:CR β w own (ds.map .d) (a.eval y).cells.toList:=z5x ⟨by simpa using hcells0.1,hcells0.2.1,fun j x u hx hu=>hcells0.2.2 j x u hx (by simpa using hu)⟩ hds
  have hcells:(ds.map PV.d).length=(a.eval y).cells.size∧(∀u∈(a.eval y).cells.toList,u.oneCell'=true)∧∀(j:Nat) (x:PV) (u:Value),(ds.map PV.d)[j]? =some x→(a.eval y).cells[j]? =some u→PR β w own x u :=
   ⟨by simpa using hcr0.1,hcr0.2.1,fun j x u hx hu=>hcr0.2.2 j x u hx (by simpa using hu)⟩
  have hlen:(a.eval y).cells.size=ds.length:=by have:=hcells.1;simp at this;omega
  have hcs:ys.length*kk≤cur.size:=by
   have h1:vs.length=ys.length*kk:=hrr.2.1
   have h2:=congrArg List.length htake
   have h3:cur.toList.length=cur.size:=zAe
   rw[zAm,h1]at h2
   omega
  have hik:i*kk+kk≤ys.length*kk:=by
   have:(i+1)*kk≤ys.length*kk:=Nat.mul_le_mul_right _ hi
   rwa [Nat.add_mul,Nat.one_mul]at this
  have hg2:w.heap[g]? =some (.cells cur.toList.toArray e' (0,0)):=by simpa using hg
  have hrun:=z6s (P:=P) ht (w:=w) (off:=i*kk+off) hg2 (v:=a.eval y) (by rw[hlen,hs]) hcells.2.1 (by simp only[zAe];omega)
  have hog:own g:=ho g (by rw[hv];rfl)
  have he:Ext w own (w.setRow g (z1b cur.toList (i*kk+off) (a.eval y).cells.toList).toArray) own :=
   ⟨rfl,rfl,rfl,by simp,fun b hb ho=>setRow_other w g b _ fun e=>ho (e▸hog),fun b hb ho=>ho⟩
  have hul:(a.eval y).cells.toList.length=ds.length:=by simp[hlen]
  have hvl:vs.length=ys.length*kk:=hrr.2.1
  have hrow:z9n w own kk (ys.set i (z1b z off ds)) (z1b vs (i*kk+off) (a.eval y).cells.toList):=by
   refine⟨fun q hq=>?_,by rw[z1l,List.length_set];exact hvl,fun u hu=>?_,fun i' q hq j u hu=>?_⟩
   ·rcases List.mem_or_eq_of_mem_set hq with hq|rfl
    ·exact hrr.1 q hq
    ·rw[z1l];exact hzk
   ·obtain⟨j,hj⟩:=zAw hu
    rw[z34 _ _ _ (by omega)]at hj
    split at hj
    ·exact hcells.2.1 u (zA2 hj)
    ·exact hrr.2.2.1 u (zA2 hj)
   ·rw[z34 _ _ _ (by omega)]
    by_cases hii:i'=i
    ·subst hii
     rw[zAp hi]at hq
     simp at hq;subst hq
     have hjk:j<kk:=by have:=(zA1.1 hu).1;rw[z1l]at this;omega
     rw[z34 _ _ _ (by omega)]at hu
     by_cases hin:off≤j∧j<off+ds.length
     ·rw[zAz hin]at hu
      rw[zAz (by omega)]
      have:i'*kk+j-(i'*kk+off)=j-off:=by omega
      rw[this]
      obtain⟨c,hc⟩:∃c,(a.eval y).cells.toList[j-off]? =some c:=⟨_,zA0 (by omega)⟩
      refine⟨c,hc,?_⟩
      have:=hcells.2.2 (j-off) (.d u) c (by rw[zAd,hu];rfl) (by simpa using hc)
      cases this with|d _ _ h=>exact h
     ·rw[zAy hin]at hu
      rw[zAy (by omega)]
      exact hrr.2.2.2 i' z hz j u hu
    ·rw[List.getElem?_set_ne (Ne.symm hii)]at hq
     have hqk:q.length=kk:=hrr.1 q (zA2 hq)
     have hjk:j<kk:=by have:=(zA1.1 hu).1;omega
     have hne:¬(i*kk+off≤i'*kk+j∧i'*kk+j<i*kk+off+(a.eval y).cells.toList.length):=by
      rcases Nat.lt_or_gt_of_ne hii with h|h
      ·have:(i'+1)*kk≤i*kk:=Nat.mul_le_mul_right _ h
       rw[Nat.add_mul]at this;omega
      ·have:(i+1)*kk≤i'*kk:=Nat.mul_le_mul_right _ h
       rw[Nat.add_mul]at this;omega
     rw[zAy hne]
     exact hrr.2.2.2 i' q hq j u hu
  have hsz:(z1b cur.toList (i*kk+off) (a.eval y).cells.toList).length=cur.size:=by rw[z1l];simp
  obtain⟨hcl,hc3⟩:cap≤maxLen∧ys.length≤cap∧cur.size=cap*kk:=by
   rcases hown.2 with⟨_,h0⟩|⟨g2,cap2,cur2,hv2,_,hg3,hle,hmx,hs2,_⟩
   ·omega
   ·rw[hv]at hv2;simp at hv2;obtain⟨rfl,rfl⟩:=hv2
    rw[hg]at hg3;simp at hg3;subst hg3
    exact⟨hmx,hle,hs2⟩
  have hbr:BR β (w.setRow g (z1b cur.toList (i*kk+off) (a.eval y).cells.toList).toArray) own (β m) (atF m (.row e' kk (ys.set i (z1b z off ds)))):=by
   rw[z7q]
   refine .row _ e' kk _ (z1b vs (i*kk+off) (a.eval y).cells.toList) ho hk0 ⟨by rw[z1l,List.length_set];exact hvl,.inr ⟨g,cap,_,by rw[List.length_set];exact hv,zAf _,setRow_heap w g cur _ e' _ hg,by rw[List.length_set];exact hc3.1,hcl,?_,?_⟩⟩ (hrow.mono he)
   ·simp[hsz,hc3.2]
   ·rw[List.length_set]
    simp only[List.toList_toArray]
    rw[zad _ _ _ _ (by omega) (by simpa using hcs),htake]
  have hheap:=hr.heap.change (raw:=.row e' kk (ys.set i (z1b z off ds))) hlook rfl he (by simp) (fun g' hg'=>setRow_other w g g' _ fun e=>hg' (by rw[hv,e];rfl)) hbr
  refine⟨.skip,undef,_,β,own,?_,.inr ⟨rfl,rfl⟩,?_,he,rfl⟩
  ·simp only[execOp,hv'];simp[hrun]
  ·refine⟨?_,hr.defers,fun t q hq=>?_,?_⟩
   ·rw[(z8b s m _).2.1];exact hr.size
   ·rw[(z8b s m _).1]at hq;exact(hr.tm t q hq).mono he
   ·rw[z4p];exact hheap
end Go.Ab
namespace Go.Ab
variable{P:Program}{f:FuncId}{R:z4b}{k:List Item}{all:Array Oper}{o:Oper}{l:List Oper}
variable{n:Nat}{tm:List (Nat × PV)}{hp:Hp}{up:Hf}{d:Nat}{ty:TypeId}{pos:String}{aft:Array Edge}{gd:Option (Nat × Bool)}{op:Op}{p:PV}
section
variable{t e:TypeId}{ti te:TI}{x y:Operand}{ms:Nat}{kk:Nat}{α:Type}{q:List α}{g:α→List D}
theorem z5m{b c:Nat}(hb:b≤1024)(hc:c≤137438953472):c*b≤140737488355328:=by
 have:=Nat.mul_le_mul hc hb
 omega
theorem z7l [ht:z1d P t ti][he:z1d P e te]{ys:List (List D)}(hev:St.evs ⟨n,tm,hp,up⟩ [x,y]=some [.ref (0,ms),.d (.slice ys)])(hb:look hp ms=some (.row e kk (q.map g)))(v:α)(hy:ys=[g v])
 (hk:ti.kind=.slice e) (hkk:kk=te.size) (hap:zks te=true) (hgl:(g v).length=te.size) (hbt:decide (te.bytes≤1024)=true) (hfr:(z1k d hp&&z1q d tm)=true) (hd:d<n) (hq:q.length<137438953472)
 (h:Ops P f R all l k ⟨n,(d,.ref (0,d))::tm,(d,.row e kk ((q++[v]).map g))::(ms,.gone)::hp,up⟩) :
 Op1 P f R all ⟨some d,.call ⟨.builtin .append,#[x,y],#[t,t]⟩,ty,pos,aft,gd⟩ l k ⟨n,tm,hp,up⟩:=by
 subst hy
 have hsm:(q.length+1)*te.bytes≤140737488355328:=z5m (by simpa using hbt) (by omega)
 refine zle hev hb hk hkk hap hfr hd (by simpa using hgl) (by simpa using hsm) (by simp;omega) ?_
 rw[List.map_append]at h
 exact h
theorem z99 [ht:z1d P t ti][he:z1d P e te]{ys:List (List D)}(v:α)(hk:ti.kind=.slice e)(h:Ops P f R all l k ⟨n,(d,.ref (0,d))::tm,(d,.row e kk ((q++[v]).map g))::(ms,.gone)::hp,up⟩)(hev:St.evs ⟨n,tm,hp,up⟩ [x,y]=some [.ref (0,ms),.d (.slice ys)]:=by exact rfl)(hb:look hp ms=some (.row e kk (q.map g)):=by exact rfl)(hy:ys=[g v]:=by exact rfl)(hkk:kk=te.size:=by exact rfl)(hap:zks te=true:=by exact rfl)(hgl:(g v).length=te.size:=by exact rfl)(hbt:decide (te.bytes≤1024)=true:=by exact rfl)(hfr:(z1k d hp&&z1q d tm)=true:=by exact rfl)(hd:d<n:=by decide)(hq:q.length<137438953472:=by omega):Op1 P f R all ⟨some d,.call ⟨.builtin .append,#[x,y],#[t,t]⟩,ty,pos,aft,gd⟩ l k ⟨n,tm,hp,up⟩:=z7l hev hb v hy hk hkk hap hgl hbt hfr hd hq h
theorem zao{id:Nat}{ops:List Oper}{s0:St}{done:List Eff}{gr:List (Nat × PV)}[ht:z1d P t ti][he:z1d P e te]{ys:List (List D)}(hg:GOK ops.toArray gd gr ⟨n,tm,hp,up⟩)(hev:St.evs ⟨n,tm,hp,up⟩ [x,y]=some [.ref (0,ms),.d (.slice ys)])(hb:look hp ms=some (.row e kk (q.map g)))(v:α)(hy:ys=[g v])
 (hk:ti.kind=.slice e) (hkk:kk=te.size) (hap:zks te=true) (hgl:(g v).length=te.size) (hbt:decide (te.bytes≤1024)=true) (hfr:(z1k d hp&&z1q d tm)=true) (hd:d<n) (hq:q.length<137438953472)
 (h:Tr P f R id ops k s0 (done++[⟨gr++rd [(x,.ref (0,ms)),(y,.d (.slice ys))],[((0,ms),.row e kk (q.map g))],[d],[(d,.ref (0,d))],[((0,ms),.gone),((0,d),.row e kk ((q++[v]).map g))]⟩])
   ⟨n,(d,.ref (0,d))::tm,(d,.row e kk ((q++[v]).map g))::(ms,.gone)::hp,up⟩ l) :
 Tr P f R id ops k s0 done ⟨n,tm,hp,up⟩ (⟨some d,.call ⟨.builtin .append,#[x,y],#[t,t]⟩,ty,pos,aft,gd⟩::l):=by
 subst hy
 have hsm:(q.length+1)*te.bytes≤140737488355328:=z5m (by simpa using hbt) (by omega)
 refine zly hg hev hb hk hkk hap hfr hd (by simpa using hgl) (by simpa using hsm) (by simp;omega) ?_
 rw[List.map_append]at h
 exact h
theorem zmf [ht:z1d P t ti][he:z1d P e te]{r:List α}(hev:St.evs ⟨n,tm,hp,up⟩ [x,y]=some [.ref (0,ms),.d (.slice (r.map g))])(hb:look hp ms=some (.row e kk (q.map g)))
 (hk:ti.kind=.slice e) (hkk:kk=te.size) (hap:zks te=true) (hgl:∀v,(g v).length=te.size) (hbt:decide (te.bytes≤1024)=true) (hfr:(z1k d hp&&z1q d tm)=true) (hd:d<n) (hq:q.length+r.length<137438953472)
 (h:Ops P f R all l k ⟨n,(d,.ref (0,d))::tm,(d,.row e kk ((q++r).map g))::(ms,.gone)::hp,up⟩) :
 Op1 P f R all ⟨some d,.call ⟨.builtin .append,#[x,y],#[t,t]⟩,ty,pos,aft,gd⟩ l k ⟨n,tm,hp,up⟩:=by
 have hsm:(q.length+r.length)*te.bytes≤140737488355328:=z5m (by simpa using hbt) (by omega)
 refine zle hev hb hk hkk hap hfr hd (fun y hy=>?_) (by simpa using hsm) (by simp;omega) ?_
 ·simp only[List.mem_map]at hy;obtain⟨v,_,rfl⟩:=hy;exact hgl v
 ·rw[List.map_append]at h
  exact h
theorem zco{id:Nat}{ops:List Oper}{s0:St}{done:List Eff}{gr:List (Nat × PV)}[ht:z1d P t ti][he:z1d P e te]{r:List α}(hg:GOK ops.toArray gd gr ⟨n,tm,hp,up⟩)(hev:St.evs ⟨n,tm,hp,up⟩ [x,y]=some [.ref (0,ms),.d (.slice (r.map g))])(hb:look hp ms=some (.row e kk (q.map g)))
 (hk:ti.kind=.slice e) (hkk:kk=te.size) (hap:zks te=true) (hgl:∀v,(g v).length=te.size) (hbt:decide (te.bytes≤1024)=true) (hfr:(z1k d hp&&z1q d tm)=true) (hd:d<n) (hq:q.length+r.length<137438953472)
 (h:Tr P f R id ops k s0 (done++[⟨gr++rd [(x,.ref (0,ms)),(y,.d (.slice (r.map g)))],[((0,ms),.row e kk (q.map g))],[d],[(d,.ref (0,d))],[((0,ms),.gone),((0,d),.row e kk ((q++r).map g))]⟩])
   ⟨n,(d,.ref (0,d))::tm,(d,.row e kk ((q++r).map g))::(ms,.gone)::hp,up⟩ l) :
 Tr P f R id ops k s0 done ⟨n,tm,hp,up⟩ (⟨some d,.call ⟨.builtin .append,#[x,y],#[t,t]⟩,ty,pos,aft,gd⟩::l):=by
 have hsm:(q.length+r.length)*te.bytes≤140737488355328:=z5m (by simpa using hbt) (by omega)
 refine zly hg hev hb hk hkk hap hfr hd (fun y hy=>?_) (by simpa using hsm) (by simp;omega) ?_
 ·simp only[List.mem_map]at hy;obtain⟨v,_,rfl⟩:=hy;exact hgl v
 ·rw[List.map_append]at h
  exact h
end
section
variable{t e:TypeId}{ti:TI}{x y:Operand}{m:Nm}{kk i off:Nat}{p:PV}{ys ys':List (List D)}{z:List D}{ps:List PV}{ds:List D}{s':St}
theorem z9c [ht:z1d P t ti](hev:St.evs ⟨n,tm,hp,up⟩ [x,y]=some [.rptr m kk i off,p])(hb:z5e ⟨n,tm,hp,up⟩ m=some (.row e kk ys))(hp':cellsOf p=some ps)(hds:z8d ps=some ds)(hz:ys[i]? =some z)(hs:ds.length=ti.size)(hf:decide (off+ds.length≤kk)=true)
 (hys:ys.set i (z1b z off ds)=ys') (he:St.setB ⟨n,tm,hp,up⟩ m (.row e kk ys')=s') (h:Ops P f R all l k s'):Op1 P f R all ⟨none,.store t x y,ty,pos,aft,gd⟩ l k ⟨n,tm,hp,up⟩:=by
 obtain⟨h1,h2,_⟩:=evE (xs:=[(x,.rptr m kk i off),(y,p)]) hev
 subst he hys
 exact z0b (zeh ht h1 h2 hb hp' hds hz hs (by simpa using hf)) h
theorem zu3{id:Nat}{ops:List Oper}{s0:St}{done:List Eff}{gr:List (Nat × PV)}[ht:z1d P t ti](hg:GOK ops.toArray gd gr ⟨n,tm,hp,up⟩)(hev:St.evs ⟨n,tm,hp,up⟩ [x,y]=some [.rptr m kk i off,p])(hb:z5e ⟨n,tm,hp,up⟩ m=some (.row e kk ys))(hp':cellsOf p=some ps)(hds:z8d ps=some ds)(hz:ys[i]? =some z)(hs:ds.length=ti.size)(hf:decide (off+ds.length≤kk)=true)
 (hys:ys.set i (z1b z off ds)=ys') (he:St.setB ⟨n,tm,hp,up⟩ m (.row e kk ys')=s')
 (h:Tr P f R id ops k s0 (done++[⟨gr++rd [(x,.rptr m kk i off),(y,p)],[(m,.row e kk ys)],[],[],[(m,.row e kk ys')]⟩]) s' l):Tr P f R id ops k s0 done ⟨n,tm,hp,up⟩ (⟨none,.store t x y,ty,pos,aft,gd⟩::l):=by
 have hx:=evE (xs:=[(x,.rptr m kk i off),(y,p)]) hev
 subst hys
 refine y12 (e:=⟨rd [(x,.rptr m kk i off),(y,p)],[(m,.row e kk ys)],[],[],[(m,.row e kk (ys.set i (z1b z off ds)))]⟩) (gr:=gr) hg ?_ ⟨z45 hx,by simpa using hb,by simp⟩ he h
 intro s2 hn ha
 obtain⟨h1,h2,_⟩:=z5n hx ha.ins
 exact zeh ht h1 h2 (ha.pre (m,.row e kk ys) (by simp)) hp' hds hz hs (by simpa using hf)
end
theorem zi3{s:St}{t e:TypeId}{ti te:TI}(ht:z1d P t ti)(he:z1d P e te)(hk:ti.kind=.slice e){x y:Operand}{k1:IntKind}{a:Int}(hx:s.ev x=some (I k1 a))(hy:s.ev y=some (I k1 a))(h0:0≤a)(ha:a≤137438953472)(hb:te.bytes≤1024)(hz:te.zero.all (·.oneCell')=true)
 (hz1:te.zero.length=te.size) (hz2:te.size≠0) (hf:(z1k d s.hp&&z1q d s.tm)=true) (hd:d<s.n) :
 z1z P ⟨some d,.makeSlice t x y,ty,pos,aft,gd⟩ s (s.app ⟨[],[],[],[(d,.ref (0,d))],[((0,d),.row e te.size (List.replicate a.toNat (te.zero.map zey)))]⟩):=by
 obtain⟨n,tm,hp,up⟩:=s
 intro β own ac w hr
 obtain⟨i,u,z,hi,hu,hiz,his,hib,hku,hzc,_⟩:=he.get
 have hsm:=z5m (b:=te.bytes) (c:=a.toNat) hb (by omega)
 have hby:(i.bytes:Int)*a≤281474976710656:=by
  exact zD99
 have hrun:=run_make (P:=P) w t e i z (ht.slice hk) hi hiz k1 k1 a a h0 (Int.le_refl _) hby (by omega)
 have hE:=Ext.alloc w own (.cells (madeCells z.cells (a.toNat*i.size)) e)
 have hzsz:z.cells.size=te.size:=by rw[←hz1,←hzc];simp
 have hget:∀i' j,i'<a.toNat→j<te.size→(madeCells z.cells (a.toNat*i.size)).toList[i'*te.size+j]? =te.zero[j]?:=by
  exact zD82
 have hlen:(madeCells z.cells (a.toNat*i.size)).toList.length=a.toNat*te.size:=by simp[size_madeCells,his]
 have hrow:z9n (w.alloc (.cells (madeCells z.cells (a.toNat*i.size)) e)) (fun g=>own g∨g=w.heap.size) te.size (List.replicate a.toNat (te.zero.map zey)) (madeCells z.cells (a.toNat*i.size)).toList:=by
  refine⟨fun x hx=>?_,by rw[zAr];exact hlen,fun v hv=>?_,fun i' x hx' j y hy'=>?_⟩
  ·rw[List.mem_replicate]at hx;rw[hx.2];simp[hz1]
  ·exact zD42
  ·have hi'':=(zA1.1 hx').1
   rw[zAr]at hi''
   rw[List.getElem?_replicate,zAz hi'']at hx'
   simp at hx';subst hx'
   rw[zAd]at hy'
   cases hq:te.zero[j]? with
   | none=>rw[hq]at hy';cases hy'
   | some u =>
    rw[hq]at hy';simp at hy';subst hy'
    refine⟨u,by rw[hget i' j hi'' (by have:=(zA1.1 hq).1;omega)];exact hq,?_⟩
    rw[List.all_eq_true]at hz
    exact .zey (hz u (zA2 hq))
 have hin:=hr.install (d:=d) hf hE (fun g hg=>by rcases hg with hg|rfl;exact zAx (hr.heap.lt g hg) (by simp);simp) (v:=.slice (some ⟨w.heap.size,0,none⟩) a.toNat a.toNat) (b:=.row e te.size (List.replicate a.toNat (te.zero.map zey)))
  (z6m hr.heap _ _ _ rfl)
  (.row _ e te.size _ _ (fun g hg=>by simp[Value.ownBlock]at hg;exact .inr hg.symm) (by omega)
    ⟨by rw[zAr];exact hlen,.inr ⟨w.heap.size,a.toNat,_,by rw[zAr],zAf _,z5l w _,by rw[zAr];exact zAj _,by unfold maxLen;omega,hlen,by rw[zAr,←hlen];exact List.take_length⟩⟩ hrow)
 exact zD24
section
variable{t e:TypeId}{ti te:TI}{x y:Operand}{k1:IntKind}{a:Int}{xs:List (List D)}
theorem zoy [ht:z1d P t ti][he:z1d P e te](hk:ti.kind=.slice e)(hev:St.evs ⟨n,tm,hp,up⟩ [x,y]=some [I k1 a,I k1 a])(h0:0≤a)(ha:a≤137438953472)(hb:decide (te.bytes≤1024)=true)(hz:z8l te 0=true)(hfr:(z1k d hp&&z1q d tm)=true)(hd:d<n)
 (hxs:List.replicate a.toNat (te.zero.map zey)=xs) (h:Ops P f R all l k ⟨n,(d,.ref (0,d))::tm,(d,.row e te.size xs)::hp,up⟩):Op1 P f R all ⟨some d,.makeSlice t x y,ty,pos,aft,gd⟩ l k ⟨n,tm,hp,up⟩:=by
 obtain⟨h1,h2,_⟩:=evE (xs:=[(x,I k1 a),(y,I k1 a)]) hev
 simp only[z8l,zA7,beq_iff_eq,bne_iff_ne]at hz
 subst hxs
 exact z0b (zi3 (P:=P) (d:=d) ht he hk (s:=⟨n,tm,hp,up⟩) h1 h2 h0 ha (by simpa using hb) hz.1.1.1 hz.1.1.2 hz.1.2 hfr hd) h
theorem zmg{id:Nat}{ops:List Oper}{s0:St}{done:List Eff}{gr:List (Nat × PV)}[ht:z1d P t ti][he:z1d P e te](hg:GOK ops.toArray gd gr ⟨n,tm,hp,up⟩)(hk:ti.kind=.slice e)(hev:St.evs ⟨n,tm,hp,up⟩ [x,y]=some [I k1 a,I k1 a])(h0:0≤a)(ha:a≤137438953472)(hb:decide (te.bytes≤1024)=true)(hz:z8l te 0=true)(hfr:(z1k d hp&&z1q d tm)=true)(hd:d<n)
 (hxs:List.replicate a.toNat (te.zero.map zey)=xs)
 (h:Tr P f R id ops k s0 (done++[⟨gr++rd [(x,I k1 a),(y,I k1 a)],[],[d],[(d,.ref (0,d))],[((0,d),.row e te.size xs)]⟩]) ⟨n,(d,.ref (0,d))::tm,(d,.row e te.size xs)::hp,up⟩ l) :
 Tr P f R id ops k s0 done ⟨n,tm,hp,up⟩ (⟨some d,.makeSlice t x y,ty,pos,aft,gd⟩::l):=by
 simp only[z8l,zA7,beq_iff_eq,bne_iff_ne]at hz
 subst hxs
 exact zre (xs:=[(x,I k1 a),(y,I k1 a)]) (bs:=[]) hg (fun s hs hx hbk hf=>zi3 (P:=P) (d:=d) ht he hk (s:=s) hx.1 hx.2.1 h0 ha (by simpa using hb) hz.1.1.1 hz.1.1.2 hz.1.2 hf (by rw[hs];exact hd)) hev rfl hfr rfl h
end
theorem z7i{x y:Operand}{t:TypeId}{ti:TI}{s:ByteArray}{kk:IntKind}{a:Int}{b:UInt8}[ht:z1d P t ti](hk:ti.kind=.str)(h0:0≤a)(hb:s[a.toNat]? =some b):Val P (.index t x y) ty [(x,S s),(y,I kk a)] [] (I .u8 b.toNat):=fun d pos aft gd n tm hp up hd hx hbk =>
 z1c rfl hd fun β own ac w hr=>⟨.int .u8 b.toNat,by
  simp only[execOp,(hr.ev hx.1).lit,(hr.ev hx.2.1).lit]
  simp[Instr.index,asIntOf,run_underlying (ht.str hk),h0,hb],.I _ _⟩
end Go.Ab
namespace Go.Ab
section
variable{P:Program}{f:FuncId}{R:z4b}{k:List Item}{all:Array Oper}{l:List Oper}
variable{n:Nat}{tm:List (Nat × PV)}{hp:Hp}{up:Hf}{d:Nat}{ty:TypeId}{pos:String}{aft:Array Edge}{gd:Option (Nat × Bool)}
theorem zt7{t:TypeId}{ti:TI}[ht:z1d P t ti]{x y:Operand}{ms off:Nat}{p:PV}{cs ps:List PV}(hev:St.evs ⟨n,tm,hp,up⟩ [x,y]=some [.ptr (0,ms) off,p])(hb:look hp ms=some (.box cs))
 (hp':cellsOf p=some ps) (hok:z8i ⟨n,tm,hp,up⟩ p=true) (hs:ps.length=ti.size) (hf:decide (off+ps.length≤cs.length)=true) (h:Ops P f R all l k ⟨n,tm,(ms,.box (z1b cs off ps))::hp,up⟩) :
 Op1 P f R all ⟨none,.store t x y,ty,pos,aft,gd⟩ l k ⟨n,tm,hp,up⟩ :=
 zr5 (raw:=.box cs) (raw':=.box (z1b cs off ps)) hev hb rfl hp' hok hs hf rfl rfl h
theorem z25{t:TypeId}{ti:TI}[ht:z1d P t ti]{x y:Operand}{ms off:Nat}{p:PV}{cs ps:List PV}(h:Ops P f R all l k ⟨n,tm,(ms,.box (z1b cs off ps))::hp,up⟩)(hev:St.evs ⟨n,tm,hp,up⟩ [x,y]=some [.ptr (0,ms) off,p]:=by exact rfl)(hb:look hp ms=some (.box cs):=by exact rfl)(hp':cellsOf p=some ps:=by exact rfl)(hok:z8i ⟨n,tm,hp,up⟩ p=true:=by exact rfl)(hs:ps.length=ti.size:=by exact rfl)(hf:decide (off+ps.length≤cs.length)=true:=by exact rfl):Op1 P f R all ⟨none,.store t x y,ty,pos,aft,gd⟩ l k ⟨n,tm,hp,up⟩:=zt7 hev hb hp' hok hs hf h
theorem z6i{id:Nat}{ops:List Oper}{s0:St}{done:List Eff}{gr:List (Nat × PV)}{t:TypeId}{ti:TI}[ht:z1d P t ti]{x y:Operand}{ms off:Nat}{p:PV}{cs ps:List PV}
 (hg:GOK ops.toArray gd gr ⟨n,tm,hp,up⟩) (hev:St.evs ⟨n,tm,hp,up⟩ [x,y]=some [.ptr (0,ms) off,p]) (hb:look hp ms=some (.box cs))
 (hp':cellsOf p=some ps) (href:z55 [p]=true) (hs:ps.length=ti.size) (hf:decide (off+ps.length≤cs.length)=true)
 (h:Tr P f R id ops k s0 (done++[⟨gr++rd [(x,.ptr (0,ms) off),(y,p)],[((0,ms),.box cs)],[],[],[((0,ms),.box (z1b cs off ps))]⟩]) ⟨n,tm,(ms,.box (z1b cs off ps))::hp,up⟩ l) :
 Tr P f R id ops k s0 done ⟨n,tm,hp,up⟩ (⟨none,.store t x y,ty,pos,aft,gd⟩::l) :=
 zbt (raw:=.box cs) (raw':=.box (z1b cs off ps)) hg hev hb rfl hp' href hs hf rfl rfl h
theorem zq5{t e:TypeId}{ti:TI}{x y:Operand}{ms kk i off:Nat}{p:PV}{ys ys':List (List D)}{z:List D}{ps:List PV}{ds:List D}[ht:z1d P t ti](hev:St.evs ⟨n,tm,hp,up⟩ [x,y]=some [.rptr (0,ms) kk i off,p])(hb:look hp ms=some (.row e kk ys))(hp':cellsOf p=some ps)(hds:z8d ps=some ds)
 (hz:ys[i]? =some z) (hs:ds.length=ti.size) (hf:decide (off+ds.length≤kk)=true) (hys:ys.set i (z1b z off ds)=ys') (h:Ops P f R all l k ⟨n,tm,(ms,.row e kk ys')::hp,up⟩):Op1 P f R all ⟨none,.store t x y,ty,pos,aft,gd⟩ l k ⟨n,tm,hp,up⟩ :=
 z9c hev hb hp' hds hz hs hf hys rfl h
theorem zpi{id:Nat}{ops:List Oper}{s0:St}{done:List Eff}{gr:List (Nat × PV)}{t e:TypeId}{ti:TI}{x y:Operand}{ms kk i off:Nat}{p:PV}{ys ys':List (List D)}{z:List D}{ps:List PV}{ds:List D}[ht:z1d P t ti](hg:GOK ops.toArray gd gr ⟨n,tm,hp,up⟩)
 (hev:St.evs ⟨n,tm,hp,up⟩ [x,y]=some [.rptr (0,ms) kk i off,p]) (hb:look hp ms=some (.row e kk ys)) (hp':cellsOf p=some ps) (hds:z8d ps=some ds) (hz:ys[i]? =some z) (hs:ds.length=ti.size) (hf:decide (off+ds.length≤kk)=true) (hys:ys.set i (z1b z off ds)=ys')
 (h:Tr P f R id ops k s0 (done++[⟨gr++rd [(x,.rptr (0,ms) kk i off),(y,p)],[((0,ms),.row e kk ys)],[],[],[((0,ms),.row e kk ys')]⟩]) ⟨n,tm,(ms,.row e kk ys')::hp,up⟩ l):Tr P f R id ops k s0 done ⟨n,tm,hp,up⟩ (⟨none,.store t x y,ty,pos,aft,gd⟩::l) :=
 zu3 hg hev hb hp' hds hz hs hf hys rfl h
end
section
variable{P:Program}{f:FuncId}{R:z4b}{k:List Item}{s:St}
theorem zor{c:Code}(h:Run P f R (.code c::.inScope c::k) s):Run P f R (.code (.scope c)::k) s:=Run.same (fun _ _ _ _=>.one (step_lone_go (by simp[stepG,stepG.exec,am,Frame.atR]))) h
end
end Go.Ab
namespace Go.Ab
variable{P:Program}{f:FuncId}{R:z4b}{k:List Item}{all:Array Oper}{o:Oper}{l:List Oper}
variable{n:Nat}{tm:List (Nat × PV)}{hp:Hp}{up:Hf}{d:Nat}{ty:TypeId}{pos:String}{aft:Array Edge}{gd:Option (Nat × Bool)}{op:Op}{p:PV}
theorem zqm{s:St}{β:Nm→Value}{own:Nat→Prop}{a:Act}{w:World}(h:Rep s β own a w){ms:Nat}{b:Blk}(hb:look s.hp ms=some b)(hl:b.live=true) :
 ∀m c,z19 s.up m=some c→c.live=true→∀g,z2h (z71 β m)=some g→z2h (β (0,ms))≠some g:=by
 intro m c hm hc g hg
 obtain⟨dd,t⟩:=m
 have hm':z19 (push s.hp s.up) (dd+1,t)=some (c.lift 1):=by rw[zbv,hm];rfl
 exact h.heap.inj (dd+1,t) (0,ms) _ b hm' hb (by rw[Blk.lift_live];exact hc) hl (by simp) g hg
theorem zl2{fn:Func}{s:St}{t ms:Nat}{cs qs:List PV}(h:fn.results=#[.tmp t])(ht:look s.tm t=some (.ptr (0,ms) 0))(hb:look s.hp ms=some (.box cs))(hq:Blk.lift 1 (.box qs)=.box cs):Res P fn s (.new (.box qs)):=fun β own a w hrep=>by
 have hbk:=hrep.heap.blk (0,ms) (.box cs) hb
 have hp:=hrep.tm t _ ht
 have hap:=zqm hrep hb rfl
 refine⟨a.tmps.getD t undef,own,by simp[results,h],Ext.refl _ _,hrep.heap.outer,?_⟩
 generalize a.tmps.getD t undef=v at hp
 generalize hv:β (0,ms)=u at hbk hap
 cases hp with
 | ptr _ _ g hg =>
  rw[hv]at hg
  subst hg
  refine .new _ _ ?_ hap
  rw[←hq]at hbk
  exact hbk.low
theorem z1x{fn:Func}{s:St}{t ms:Nat}{ty:TypeId}{ti:TI}[hty:z1d P ty ti]{cs:List PV}{ds:List D}(h:fn.results=#[.cell t ty])(ht:look s.tm t=some (.ptr (0,ms) 0))(hb:look s.hp ms=some (.box cs))(hds:z8d cs=some ds)(hs:ds.length=ti.size)(ha:ti.agg=true) :
 Res P fn s (.v (.d (.agg ds))):=fun β own a w hrep=>by
 have hp:=hrep.tm t _ ht
 obtain⟨g,tt,cur,hβ,ho,hg,hl0,h1,hd0⟩:=hrep.box (m:=(0,ms)) hb
 obtain⟨hl,_,hd⟩:=z5x (own:=own) (w:=w) (β:=β) ⟨hl0,h1,hd0⟩ hds
 refine⟨.agg cur.toArray,own,?_,Ext.refl _ _,hrep.heap.outer,?_⟩
 ·exact zD8
 ·refine .v _ _ (PR.low (β:=β) (y:=.d (.agg ds)) (.d _ _ (.agg _ _ (by simpa using hl) h1 fun j x v hx hv=>?_)) (.d (.agg ds)) rfl)
  have:=hd j (.d x) v (by rw[zAd,hx];rfl) hv
  cases this with|d _ _ h=>exact h
def y65(b:Blk)(m:Nm):PV:=match b with
 | .box _=>.ptr m 0
 | _=>.ref m
theorem zti{β:Nm→Value}{β':Nm→Value}{w:World}{own:Nat→Prop}{v:Value}{b:Blk}{m:Nm}(h:BR β' w own v b)(hv:β m=v):PR β w own (y65 b m) v:=by
 subst hv
 cases b with
 | box cs=> 
  simp only[y65]
  generalize hu:β m=u at h
  cases h with|box g t cs cur ho hg hl h1 hd=>exact .ptr m 0 g hu
 | _=>exact .ref m
theorem zs7{g:FuncId}{args:List Operand}{ps:List PV}{ats:Array TypeId}{R':zc7}(hev:St.evs ⟨n,tm,hp,up⟩ args=some ps)(hsp:Spec P g ps (push hp up) R')(hd:d<n)(hfr:(z1k d hp&&z1q d tm)=true)
 (hk:∀r H,R' r H→∃b,r=.new b∧H=push hp up∧b.live=true∧b.says (0,d)=false∧Ops P f R all l k ⟨n,(d,y65 b (0,d))::tm,(d,b)::hp,up⟩) :
 Op1 P f R all ⟨some d,.call ⟨.value (.func g),args.toArray,ats⟩,ty,pos,aft,gd⟩ l k ⟨n,tm,hp,up⟩:=by
 refine zgg (g:=g) fun β own a w hr=>?_
 obtain⟨vals,hrun,hargs⟩:=z7g (first:=[]) (cap:=[]) hr (fo:=.func g) rfl hev hsp.plain (dst:=some d) (ats:=ats) (ty:=ty) (pos:=pos) (aft:=aft) (gd:=gd)
 refine⟨vals.toArray,w,own,hrun,Ext.refl _ _,(hsp.run β own w vals hr.heap (by simpa using hargs)).mono fun e w' hfin=>?_⟩
 obtain⟨v,r,H,own',he,hR,hrv,hheap,hext⟩:=hfin
 obtain⟨b,rfl,rfl,hbl,hbs,hops⟩:=hk r H hR
 cases hrv with
 | new _ _ hbr hap =>
  have hr1:Rep ⟨n,tm,hp,up⟩ β own' a w':=⟨hr.size,hr.defers,fun t q hq=>(hr.tm t q hq).mono hext,hheap⟩
  have hbr':BR (z69 β d v) w' own' v b:=hbr.reβ (0,d) (z3h β d v) hbs
  have hin:=hr1.install (d:=d) (v:=v) (b:=b) hfr (Ext.refl w' own') hheap.lt (fun m c hm hc _ g' hg'=>⟨rfl,(hheap.blk m c hm).block_lt hc hg',fun _=>hap m c hm hc g' hg'⟩) hbr'
  refine⟨v,z69 β d v,own',_,he,?_,hext,z3a _ _ _,hops⟩
  exact hin.put (dst:=some d) (by simp[St.fits,hd]) (zti hbr' (z2d β d v))
section
variable{t e:TypeId}{ti te:TI}{x y z:Operand}{kk k':IntKind}{a b:Int}{α:Type}{q:List α}{g:α→List D}
theorem zqc [ht:z1d P t ti][he:z1d P e te](hk:ti.kind=.slice e)(h0:0≤a)(h1:a≤q.length)(hs:∀v,(g v).length=te.size) :
 Val P (.slice t x (some y) none none) ty [(x,.d (.slice (q.map g))),(y,I kk a)] [] (.d (.slice ((q.drop a.toNat).map g))):=by
 rw[List.map_drop]
 exact zsu hk h0 (by simpa using h1) fun y hy=>by simp only[List.mem_map]at hy;obtain⟨v,_,rfl⟩:=hy;exact hs v
theorem z7v [ht:z1d P t ti][he:z1d P e te](hk:ti.kind=.slice e)(h0:0≤b)(h1:b≤q.length)(hs:∀v,(g v).length=te.size) :
 Val P (.slice t x none (some z) none) ty [(x,.d (.slice (q.map g))),(z,I kk b)] [] (.d (.slice ((q.take b.toNat).map g))):=by
 rw[List.map_take]
 exact zsj hk h0 (by simpa using h1) fun y hy=>by simp only[List.mem_map]at hy;obtain⟨v,_,rfl⟩:=hy;exact hs v
end
end Go.Ab
namespace Go.Ab
variable{P:Program}{f:FuncId}{R:z4b}{k:List Item}{all:Array Oper}{o:Oper}{l:List Oper}
variable{n:Nat}{tm:List (Nat × PV)}{hp:Hp}{up:Hf}{d:Nat}{ty:TypeId}{pos:String}{aft:Array Edge}{gd:Option (Nat × Bool)}{op:Op}{p:PV}
theorem z8o{H:Hf}{m:Nm}{b:Blk}(h:H m.1 m.2=some b):upd H m b=H:=by
 funext d s
 simp only[upd]
 split
 ·rename_i e;obtain⟨rfl,rfl⟩:=e;exact h.symm
 ·rfl
theorem bk1{s:St}{m:Nm}{b:Blk}(h:z5e s m=some b):BkE s [(m,b)]:=by simp[BkE,h]
theorem z5k{t:TypeId}{ti:TI}[ht:z1d P t ti]{x y:Operand}{md ms off:Nat}{p:PV}{cs ps:List PV}{raw raw':Blk}(hev:St.evs ⟨n,tm,hp,up⟩ [x,y]=some [.ptr (md+1,ms) off,p])(hb:up md ms=some raw)(hc:raw.lift (md+1)=.box cs)
 (hp':cellsOf p=some ps) (hok:z8i ⟨n,tm,hp,up⟩ p=true) (hs:ps.length=ti.size) (hf:decide (off+ps.length≤cs.length)=true) (hc':raw'.lift (md+1)=.box (z1b cs off ps)) (h:Ops P f R all l k ⟨n,tm,hp,upd up (md,ms) raw'⟩) :
 Op1 P f R all ⟨none,.store t x y,ty,pos,aft,gd⟩ l k ⟨n,tm,hp,up⟩ :=
 zr5 (m:=(md+1,ms)) (raw:=raw) (raw':=raw') hev hb hc hp' hok hs hf hc' rfl h
theorem zd4{id:Nat}{ops:List Oper}{s0:St}{done:List Eff}{gr:List (Nat × PV)}{t:TypeId}{ti:TI}[ht:z1d P t ti]{x y:Operand}{md ms off:Nat}{p:PV}{cs ps:List PV}{raw raw':Blk}
 (hg:GOK ops.toArray gd gr ⟨n,tm,hp,up⟩) (hev:St.evs ⟨n,tm,hp,up⟩ [x,y]=some [.ptr (md+1,ms) off,p]) (hb:up md ms=some raw) (hc:raw.lift (md+1)=.box cs)
 (hp':cellsOf p=some ps) (href:z55 [p]=true) (hs:ps.length=ti.size) (hf:decide (off+ps.length≤cs.length)=true) (hc':raw'.lift (md+1)=.box (z1b cs off ps))
 (h:Tr P f R id ops k s0 (done++[⟨gr++rd [(x,.ptr (md+1,ms) off),(y,p)],[((md+1,ms),raw)],[],[],[((md+1,ms),raw')]⟩]) ⟨n,tm,hp,upd up (md,ms) raw'⟩ l) :
 Tr P f R id ops k s0 done ⟨n,tm,hp,up⟩ (⟨none,.store t x y,ty,pos,aft,gd⟩::l) :=
 zbt (m:=(md+1,ms)) (raw:=raw) (raw':=raw') hg hev hb hc hp' href hs hf hc' rfl h
end Go.Ab
namespace Go.Ab
variable{P:Program}{f:FuncId}{R:z4b}{k:List Item}{all:Array Oper}{o:Oper}{l:List Oper}
variable{n:Nat}{tm:List (Nat × PV)}{hp:Hp}{up:Hf}{d:Nat}{ty:TypeId}{pos:String}{aft:Array Edge}{gd:Option (Nat × Bool)}{op:Op}{p:PV}
def pn:PV→PV
 | .d x=>.d (nrm x)
 | .agg cs=>match z8d cs with
  | some ds=>.d (.agg ds)
  | none=>.agg cs
 | p=>p
theorem PR.pn{β:Nm→Value}{w:World}{own:Nat→Prop}{p:PV}{v:Value}(h:PR β w own p v):PR β w own (pn p) v:=by
 cases h with
 | d x v h=>exact .d _ _ h.nrm
 | agg cs vs hl h1 hd =>
  simp only[Ab.pn]
  cases hq:z8d cs with
  | none=>exact .agg cs vs hl h1 hd
  | some ds =>
   have:=z5x ⟨hl,h1,hd⟩ hq
   exact .d _ _ (.agg _ _ this.data.1 h1 this.data.2)
 | any v=>exact .any v
 | ptr n off g h=>exact .ptr n off g h
 | eptr cs g o c h1 h2 h3 h4=>exact .eptr cs g o c h1 h2 h3 h4
 | ref n=>exact .ref n
 | rptr n k i off g len cap h=>exact .rptr n k i off g len cap h
 | rsub n k lo len L cap a h hl hc=>exact .rsub n k lo len L cap a h hl hc
 | al a b h v=>exact .al a b h v
 | tup ps vs hl hd=>exact .tup ps vs hl hd
 | fn f first cap fv cv hl hl' hd hd'=>exact .fn f first cap fv cv hl hl' hd hd'
 | yl n L h=>exact .yl n L h
 | full xs a h=>exact .full xs a h
theorem z8g.pn{β:Nm→Value}{w:World}{own:Nat→Prop}{ps:List PV}{vs:List Value}(h:z8g β w own ps vs):z8g β w own (ps.map pn) vs :=
 ⟨by simpa using h.1,fun j p v hp hv=>by
   rw[zAd]at hp
   cases hq:ps[j]? with
   | none=>rw[hq]at hp;cases hp
   | some q=>rw[hq]at hp;simp at hp;subst hp;exact(h.2 j q v hq hv).pn⟩
theorem Spec.pn{g:FuncId}{ps:List PV}{H:Hf}{R:zc7}(h:Spec P g (ps.map pn) H R):Spec P g ps H R:=⟨h.plain,fun β own w vals hh ha=>h.run β own w vals hh ha.pn⟩
theorem z0q.pn{g:FuncId}{ps:List PV}(h:z0q P g (ps.map pn) p):z0q P g ps p:=fun H=>(h H).pn
theorem z1v.pn{g:FuncId}{ps:List PV}{bs hs:List (Nm × Blk)}(h:z1v P g (ps.map pn) bs hs p):z1v P g ps bs hs p:=fun H hH=>(h H hH).pn
def St.evc(s:St)(args:List Operand):Option (List PV):=match s.evs args with
 | some ps=>some (ps.map Ab.pn)
 | none=>none
theorem zcz{s:St}{args:List Operand}{ps:List PV}(h:s.evc args=some ps):s.evs args=some ((s.evs args).getD [])∧((s.evs args).getD []).map pn=ps:=by
 simp only[St.evc]at h
 cases hq:s.evs args with
 | none=>rw[hq]at h;cases h
 | some q=>rw[hq]at h;simp at h;exact⟨rfl,h⟩
theorem y6j{g:FuncId}{args:List Operand}{ps:List PV}{ats:Array TypeId}(hsp:z0q P g ps p)(hev:St.evc ⟨n,tm,hp,up⟩ args=some ps)(hd:d<n)(hk:Ops P f R all l k ⟨n,(d,p)::tm,hp,up⟩) :
 Op1 P f R all ⟨some d,.call ⟨.value (.func g),args.toArray,ats⟩,ty,pos,aft,gd⟩ l k ⟨n,tm,hp,up⟩:=by
 obtain⟨h1,h2⟩:=zcz hev
 exact y69 (z0q.pn (by rw[h2];exact hsp)) h1 hd hk
theorem z29{g:FuncId}{args:List Operand}{ps:List PV}{ats:Array TypeId}(hsp:z0q P g ps p)(hk:Ops P f R all l k ⟨n,(d,p)::tm,hp,up⟩)(hev:St.evc ⟨n,tm,hp,up⟩ args=some ps:=by exact rfl)(hd:d<n:=by decide):Op1 P f R all ⟨some d,.call ⟨.value (.func g),args.toArray,ats⟩,ty,pos,aft,gd⟩ l k ⟨n,tm,hp,up⟩:=y6j hsp hev hd hk
theorem y5b{id:Nat}{ops:List Oper}{s0:St}{done:List Eff}{g:FuncId}{args:List Operand}{ps:List PV}{ats:Array TypeId}{gr:List (Nat × PV)}(hsp:z0q P g ps p)(hg:GOK ops.toArray gd gr ⟨n,tm,hp,up⟩)(hev:St.evc ⟨n,tm,hp,up⟩ args=some ps)(hd:d<n)
 (h:Tr P f R id ops k s0 (done++[⟨gr++rd (args.zip ((St.evs ⟨n,tm,hp,up⟩ args).getD [])),[],[],[(d,p)],[]⟩]) ⟨n,(d,p)::tm,hp,up⟩ l):Tr P f R id ops k s0 done ⟨n,tm,hp,up⟩ (⟨some d,.call ⟨.value (.func g),args.toArray,ats⟩,ty,pos,aft,gd⟩::l):=by
 obtain⟨h1,h2⟩:=zcz hev
 exact y5g (z0q.pn (by rw[h2];exact hsp)) hg h1 hd h
theorem z5b{id:Nat}{ops:List Oper}{s0:St}{done:List Eff}{g:FuncId}{args:List Operand}{ps:List PV}{ats:Array TypeId}{gr:List (Nat × PV)}(hsp:z0q P g ps p)(h:Tr P f R id ops k s0 (done++[⟨gr++rd (args.zip ((St.evs ⟨n,tm,hp,up⟩ args).getD [])),[],[],[(d,p)],[]⟩]) ⟨n,(d,p)::tm,hp,up⟩ l)(hg:GOK ops.toArray gd gr ⟨n,tm,hp,up⟩:=by first|exact rfl|exact⟨_,rfl,rfl,rfl⟩)(hev:St.evc ⟨n,tm,hp,up⟩ args=some ps:=by exact rfl)(hd:d<n:=by decide):Tr P f R id ops k s0 done ⟨n,tm,hp,up⟩ (⟨some d,.call ⟨.value (.func g),args.toArray,ats⟩,ty,pos,aft,gd⟩::l):=y5b hsp hg hev hd h
end Go.Ab
namespace Go.Ab
variable{P:Program}{f:FuncId}{R:z4b}{k:List Item}{all:Array Oper}{o:Oper}{l:List Oper}
variable{n:Nat}{tm:List (Nat × PV)}{hp:Hp}{up:Hf}{d:Nat}{ty:TypeId}{pos:String}{aft:Array Edge}{gd:Option (Nat × Bool)}{op:Op}{p:PV}
section
variable{x y z:Operand}{tx ty' t e:TypeId}{ti te:TI}{a b s:ByteArray}{kk k':IntKind}{i j:Int}
theorem zww:Val P (.binOp .geq tx x y ty') ty [(x,S a),(y,S b)] [] (B (!Op.bytesLess a.toList b.toList)):=fun d pos aft gd n tm hp up hd hx hb =>
 z6w hx.1 hx.2.1 hd rfl fun w=>by simp[eqGuard,binOp,Op.stringOp]
theorem zga [ht:z1d P t ti](hk:ti.kind=.str)(h0:0≤i)(h1:i≤j)(h2:j≤s.size):Val P (.slice t x (some y) (some z) none) ty [(x,S s),(y,I kk i),(z,I k' j)] [] (S (s.extract i.toNat j.toNat)):=fun d pos aft gd n tm hp up hd hx hb =>
 z1c rfl hd fun β own ac w hr=>⟨.string (s.extract i.toNat j.toNat),by
  simp only[execOp,(hr.ev hx.1).lit,(hr.ev hx.2.1).lit,(hr.ev hx.2.2.1).lit,Option.map_some,Option.map_none]
  have h3:(0:Int)≤j:=by omega
  have h5:¬(max j 0<i):=by omega
  simp[Instr.sliceAt,Instr.slice,Instr.sliceBounds,Instr.sliceBound,asIntOf,run_underlying (ht.str hk),h0,h3,h2,h5,h1],.S _⟩
theorem zek [ht:z1d P t ti](hk:ti.kind=.str)(h0:0≤i)(h1:i≤s.size):Val P (.slice t x (some y) none none) ty [(x,S s),(y,I kk i)] [] (S (s.extract i.toNat s.size)):=fun d pos aft gd n tm hp up hd hx hb =>
 z1c rfl hd fun β own ac w hr=>⟨.string (s.extract i.toNat s.size),by
  simp only[execOp,(hr.ev hx.1).lit,(hr.ev hx.2.1).lit,Option.map_some,Option.map_none]
  simp[Instr.sliceAt,Instr.slice,Instr.sliceBounds,Instr.sliceBound,asIntOf,run_underlying (ht.str hk),h0,h1],.S _⟩
abbrev y2y(b:UInt8):D:=.lit (.int .u8 b.toNat)
def zop(l:List UInt8):D:=.slice (l.map fun b=>[y2y b])
theorem zza{src dst:TypeId}{ts td te:TI}[hs:z1d P src ts][hd':z1d P dst td][he:z1d P e te](hks:ts.kind=.str)(hkd:td.kind=.slice e)(hke:te.kind=.int .u8) :
 Val P (.convert src dst x) ty [(x,S s)] [] (.d (zop s.data.toList)):=fun d pos aft gd n tm hp up hd hx hb =>
 zb7 rfl hd fun β own ac w hr=>by
  have hrun:=run_bytes_of_string (P:=P) w src dst e s (hs.str hks) (hd'.slice hkd) (he.int hke)
  have hB:RowKit.Below w.heap.size w (w.drew.alloc (.cells (bytesRow s (grownCap w s.size 0 e)) e ((bytesRow s (grownCap w s.size 0 e)).size,(bytesRow s (grownCap w s.size 0 e)).size+1))) :=
   ((RowKit.Below.refl _ _).drew).alloc (zAj _) _
  refine⟨_,_,by simp only[execOp,(hr.ev hx.1).lit];rw[Sem.run_bind,hrun];rfl,hB,.d _ _ ?_⟩
  have hl:s.size=(s.data.toList.map fun b=>[y2y b]).length:=by simp
  have hcap:s.size≤grownCap w s.size 0 e:=grownCap_ge _ _ _ _
  rw[zop]
  generalize grownCap w s.size 0 e=cap at hcap
  conv in Value.slice _ _ _=>rw[hl]
  refine .slice _ w.heap.size 0 cap 1 (fun i _=>.int .u8 (s.data.toList.getD i 0).toNat) (by rw[←hl];exact hcap) (fun h=>by have:=hr.heap.lt _ h;omega) ?_ (fun y hy=>by simp only[List.mem_map]at hy;obtain⟨b,_,rfl⟩:=hy;rfl) (fun i hi j hj=>?_) fun i z hz j u hu=>?_
  ·simp
  ·rw[←hl]at hi
   have hj0:j=0:=by omega
   subst hj0
   have hi':i<s.data.size:=hi
   refine⟨?_,rfl⟩
   rw[cell_of_row _ w.heap.size _ (bytesRow s cap) e ((bytesRow s cap).size,(bytesRow s cap).size+1) (z5l w.drew _)]
   simp[bytesRow,Array.getElem?_append,List.getD]
   rw[zAz hi,Array.getElem?_eq_getElem hi'];simp
  ·rw[zAd]at hz
   cases hq:s.data.toList[i]? with
   | none=>rw[hq]at hz;cases hz
   | some b =>
    exact zD78
end
def NF(P:Program)(g:FuncId)(ps:List PV)(Q:PV→Prop):Prop:=∀H,Spec P g ps H (fun r H'=>∃p,r=.v p∧Q p∧H'=H)
theorem z5u{g:FuncId}{ps:List PV}{Q:PV→Prop}(h:∀H,Spec P g ps H fun r H'=>∃p,r=.v p∧Q p∧H'=H):NF P g ps Q:=h
theorem Spec.mono{g:FuncId}{ps:List PV}{H:Hf}{R R':zc7}(h:Spec P g ps H R)(hm:∀r H',R r H'→R' r H'):Spec P g ps H R' :=
 ⟨h.plain,fun β own w vals hh ha=>(h.run β own w vals hh ha).mono fun e w' ⟨v,r,H',own',h1,h2,h3,h4,h5⟩=>⟨v,r,H',own',h1,hm _ _ h2,h3,h4,h5⟩⟩
theorem z8h{g:FuncId}{args:List Operand}{ps:List PV}{ats:Array TypeId}{Q:PV→Prop}(hsp:NF P g ps Q)(hev:St.evc ⟨n,tm,hp,up⟩ args=some ps)(hd:d<n)(hk:∀p,Q p→Ops P f R all l k ⟨n,(d,p)::tm,hp,up⟩) :
 Op1 P f R all ⟨some d,.call ⟨.value (.func g),args.toArray,ats⟩,ty,pos,aft,gd⟩ l k ⟨n,tm,hp,up⟩:=by
 obtain⟨h1,h2⟩:=zcz hev
 refine zdh (first:=[]) (cap:=[]) (R':=fun r H'=>∃p,r=.v p∧Q p∧H'=push hp up) rfl h1 (by simpa using(Spec.pn (by rw[h2];exact hsp _))) hd ?_
 rintro r H ⟨p,h1,h2,h3⟩
 exact⟨p,hp,up,h1,h3,hk p h2⟩
def Rel(P:Program)(g:FuncId)(ps:List PV)(bs:List (Nm × Blk)){σ:Type}(Q:σ→Prop)(p:σ→PV)(hs:σ→List (Nm × Blk)):Prop :=
 ∀H:Hf,(∀q∈bs,H q.1.1 q.1.2=some q.2)→Spec P g ps H fun r H'=>∃x,Q x∧r=.v (p x)∧H'=zf9 H (hs x)
theorem z1v.rel{g:FuncId}{ps:List PV}{bs hs:List (Nm × Blk)}{σ:Type}{Q:σ→Prop}{p:σ→PV}{hs':σ→List (Nm × Blk)}(x:σ)(h:z1v P g ps bs hs (p x))(hq:Q x)(he:hs' x=hs):Rel P g ps bs Q p hs':=fun H hH =>
 (h H hH).mono fun r H' ⟨h1,h2⟩=>⟨x,hq,h1,by rw[he];exact h2⟩
theorem y3u{g:FuncId}{args:List Operand}{ps:List PV}{ats:Array TypeId}{bs:List (Nm × Blk)}{σ:Type}{Q:σ→Prop}{p:σ→PV}{hs:σ→List (Nm × Blk)}(hsp:Rel P g ps bs Q p hs)(hev:St.evc ⟨n,tm,hp,up⟩ args=some ps)(hb:BkE ⟨n,tm,hp,up⟩ bs)(hd:d<n)
 (hk:∀x,Q x→Ops P f R all l k (St.app ⟨n,tm,hp,up⟩ ⟨[],[],[],[(d,p x)],hs x⟩)) :
 Op1 P f R all ⟨some d,.call ⟨.value (.func g),args.toArray,ats⟩,ty,pos,aft,gd⟩ l k ⟨n,tm,hp,up⟩:=by
 obtain⟨h1,h2⟩:=zcz hev
 refine zdh (first:=[]) (cap:=[]) (R':=fun r H'=>∃x,Q x∧r=.v (p x)∧H'=zf9 (push hp up) (hs x)) rfl h1 (by simpa using(Spec.pn (by rw[h2];exact hsp (push hp up) fun q hq=>z7m (bkE hb) q hq))) hd ?_
 rintro r H ⟨x,hq,hr,hH⟩
 refine⟨p x,(St.setBs ⟨n,tm,hp,up⟩ (hs x)).hp,(St.setBs ⟨n,tm,hp,up⟩ (hs x)).up,hr,?_,?_⟩
 ·rw[hH,z9e]
 ·have:=hk x hq
  have e:St.app ⟨n,tm,hp,up⟩ ⟨[],[],[],[(d,p x)],hs x⟩=⟨n,(d,p x)::tm,(St.setBs ⟨n,tm,hp,up⟩ (hs x)).hp,(St.setBs ⟨n,tm,hp,up⟩ (hs x)).up⟩:=by
   have h3:=(z3t (hs x) ⟨n,tm,hp,up⟩)
   simp only[St.app,St.puts]
   rw[h3.1,h3.2.1]
  rw[e]at this
  exact this
theorem z6f{g:FuncId}{args:List Operand}{ps:List PV}{ats:Array TypeId}{ms:Nat}{b:Blk}{σ:Type}{Q:σ→Prop}{p:σ→PV}{b':σ→Blk}(hsp:Rel P g ps [((0,ms),b)] Q p fun x=>[((0,ms),b' x)])(hev:St.evc ⟨n,tm,hp,up⟩ args=some ps)(hb:look hp ms=some b)(hd:d<n)
 (hk:∀x,Q x→Ops P f R all l k ⟨n,(d,p x)::tm,(ms,b' x)::hp,up⟩) :
 Op1 P f R all ⟨some d,.call ⟨.value (.func g),args.toArray,ats⟩,ty,pos,aft,gd⟩ l k ⟨n,tm,hp,up⟩ :=
 y3u hsp hev (by simp[BkE,z5e,push,hb]) hd hk
theorem zw0{g:FuncId}{args:List Operand}{ps:List PV}{ats:Array TypeId}{ms mt:Nat}{b c:Blk}{σ:Type}{Q:σ→Prop}{p:σ→PV}{b' c':σ→Blk}(hsp:Rel P g ps [((0,ms),b),((0,mt),c)] Q p fun x=>[((0,ms),b' x),((0,mt),c' x)])(hev:St.evc ⟨n,tm,hp,up⟩ args=some ps)
 (hb:look hp ms=some b) (hc:look hp mt=some c) (hd:d<n) (hk:∀x,Q x→Ops P f R all l k ⟨n,(d,p x)::tm,(mt,c' x)::(ms,b' x)::hp,up⟩) :
 Op1 P f R all ⟨some d,.call ⟨.value (.func g),args.toArray,ats⟩,ty,pos,aft,gd⟩ l k ⟨n,tm,hp,up⟩ :=
 y3u hsp hev (by simp[BkE,z5e,push,hb,hc]) hd hk
def PV.take(m:Nm)(y:Nat):PV→PV
 | .ptr q off=>if q == m then .ptr (0,y) off else .ptr q off
 | p=>p
def zm6(m:Nm)(y:Nat):List (Nat × PV)→List (Nat × PV)
 | []=>[]
 | (t,p)::r=>(t,p.take m y)::zm6 m y r
theorem ze7{m:Nm}{y:Nat}:∀ {tm:List (Nat × PV)} {t:Nat},look (zm6 m y tm) t=(look tm t).map (PV.take m y)
 | [],t=>rfl
 | (k,p)::r,t=>by
  simp only[zm6,look]
  split
  ·rfl
  ·exact ze7
theorem z6l{hp:Hp}{up:Hf}(md ms:Nat)(b:Blk):push hp (upd up (md,ms) b)=upd (push hp up) (md+1,ms) b:=by
 have:=z4p ⟨0,[],hp,up⟩ (md+1,ms) b
 simpa[St.setB]using this
theorem z57(y md ms:Nat){raw:Blk}(hb:up md ms=some raw)(hl:raw.live=true)(hfr:(z1k y hp&&z1q y tm)=true)
 (h:Run P f R k ⟨n,(100000+y,.al (0,y) (md+1,ms))::zm6 (md+1,ms) y tm,(y,raw.lift (md+1))::hp,upd up (md,ms) .gone⟩):Run P f R k ⟨n,tm,hp,up⟩:=by
 refine Run.step (fun β own a w hr b cs=>⟨z69 β y (β (md+1,ms)),own,a,w,?_,Ext.refl _ _,z3a _ _ _,.refl _ _⟩) h
 have hne:((md+1,ms):Nm)≠(0,y):=by simp
 simp only[zA7]at hfr
 have hlook:z19 (push hp up) (md+1,ms)=some (raw.lift (md+1)):=by simp[z19,push,hb]
 have hl':(raw.lift (md+1)).live=true:=by rw[Blk.lift_live];exact hl
 have hr0:HR (push hp (upd up (md,ms) .gone)) β own w:=by rw[z6l];exact hr.heap.drop (md+1,ms)
 have key:∀m c,z19 (push hp (upd up (md,ms) .gone)) m=some c→c.live=true→m≠(md+1,ms)∧z19 (push hp up) m=some c:=by
  exact zD81
 refine⟨hr.size,hr.defers,fun t p hp'=>?_,?_⟩
 ·simp only[look]at hp'
  split at hp'
  ·simp at hp';subst hp'
   exact .al _ _ (by rw[z2d,z3h _ _ _ _ hne]) _
  ·rw[ze7]at hp'
   cases hq:look tm t with
   | none=>rw[hq]at hp';cases hp'
   | some q =>
    rw[hq]at hp';simp at hp';subst hp'
    have h1:=hr.tm t q hq
    have h2:=h1.reβ (β':=z69 β y (β (md+1,ms))) (0,y) (z3h β y _) (z7z hfr.2 hq)
    generalize a.tmps.getD t undef=v at h1 h2
    cases q with
    | ptr q off =>
     simp only[PV.take]
     split
     ·rename_i e;simp at e;subst e
      cases h1 with|ptr _ _ g hg=>exact .ptr _ _ g (by rw[z2d];exact hg)
     ·exact h2
    | _=>exact h2
 ·exact zD39
theorem z3s(y md ms:Nat){b raw:Blk}(hal:look tm (100000+y)=some (.al (0,y) (md+1,ms)))(hb:look hp y=some b)(hg:up md ms=some .gone)(hl:b.live=true)(hraw:raw.lift (md+1)=b)
 (h:Run P f R k ⟨n,tm,(y,.gone)::hp,upd up (md,ms) raw⟩):Run P f R k ⟨n,tm,hp,up⟩:=by
 refine Run.step (s:=⟨n,tm,hp,up⟩) (s':=⟨n,tm,(y,.gone)::hp,upd up (md,ms) raw⟩) (fun β own a w hr b' fs=>⟨β,own,a,w,⟨hr.size,hr.defers,hr.tm,?_⟩,Ext.refl _ _,rfl,.refl _ _⟩) h
 have hβ:β (0,y)=β (md+1,ms):=by
  have:=hr.tm _ _ hal
  generalize a.tmps.getD (100000+y) undef=v at this
  cases this with|al _ _ h _=>exact h
 have hlook:z19 (push hp up) (0,y)=some b:=hb
 have key:∀m c,z19 (push ((y,.gone)::hp) (upd up (md,ms) raw)) m=some c→c.live=true→(m=(md+1,ms)∧c=b)∨(m≠(md+1,ms)∧m≠(0,y)∧z19 (push hp up) m=some c):=by
  intro m c hm hc
  rw[z2t]at hm
  by_cases h1:m=(0,y)
  ·rw[zAz h1]at hm;simp at hm;subst hm;cases hc
  ·rw[zAy h1,z6l,z3q]at hm
   by_cases h2:m=(md+1,ms)
   ·rw[zAz h2]at hm;simp[atF,hraw]at hm;exact .inl ⟨h2,hm.symm⟩
   ·rw[zAy h2]at hm;exact .inr ⟨h2,h1,hm⟩
 refine⟨fun m c hm=>?_,fun m1 m2 c1 c2 h1 h2 l1 l2 hne g hg=>?_,hr.heap.lt⟩
 ·cases hc:c.live with
  | false=>cases c <;> first|(simp[Blk.live]at hc;done)|exact .gone _
  | true =>
   rcases key m c hm hc with⟨rfl,rfl⟩|⟨_,_,h3⟩
   ·rw[←hβ];exact hr.heap.blk _ _ hlook
   ·exact hr.heap.blk m c h3
 ·rcases key m1 c1 h1 l1 with⟨rfl,rfl⟩|⟨n1,n1',h3⟩
  ·rcases key m2 c2 h2 l2 with⟨rfl,rfl⟩|⟨n2,n2',h4⟩
   ·exact absurd rfl hne
   ·rw[←hβ]at hg
    exact hr.heap.inj (0,y) m2 _ c2 hlook h4 l1 l2 (Ne.symm n2') g hg
  ·rcases key m2 c2 h2 l2 with⟨rfl,rfl⟩|⟨n2,n2',h4⟩
   ·rw[←hβ]
    exact hr.heap.inj m1 (0,y) c1 _ h3 hlook l1 l2 n1' g hg
   ·exact hr.heap.inj m1 m2 c1 c2 h3 h4 l1 l2 hne g hg
theorem zvs(H:Hf){m q:Nm}(h:m≠q)(b c:Blk):upd (upd H m b) q c=upd (upd H q c) m b:=by
 funext d s
 simp only[upd]
 by_cases h1:d=q.1∧s=q.2
 ·by_cases h2:d=m.1∧s=m.2
  ·exact absurd (Prod.ext (h2.1.symm.trans h1.1) (h2.2.symm.trans h1.2)) h
  ·simp[h1,h2]
   intro e1 e2;exact absurd (Prod.ext e1.symm e2.symm) h
 ·simp[h1]
theorem BR.nilrow{β:Nm→Value}{w:World}{own:Nat→Prop}{e kk:Nat}(hk:0<kk):BR β w own z1t (.row e kk []) :=
 .row z1t e kk [] [] (by simp[Value.ownBlock]) hk (World.ownsRow_nil w 0 e kk) ⟨by simp,by simp,by simp,by simp⟩
theorem Rep.nilrow{β:Nm→Value}{own:Nat→Prop}{a:Act}{w:World}(x e kk:Nat)(hk:0<kk)(hfr:(z1k x hp&&z1q x tm)=true)(hr:Rep ⟨n,tm,hp,up⟩ β own a w):Rep ⟨n,tm,(x,.row e kk [])::hp,up⟩ (z69 β x z1t) own a w :=
 hr.install (d:=x) hfr (Ext.refl w own) hr.heap.lt (fun q c hq hl hqd g hg=>⟨rfl,(hr.heap.blk q c hq).block_lt hl hg,fun _=>by simp[z2h]⟩) (BR.nilrow hk)
theorem z6n(t x e kk:Nat)(ht:look tm t=some (.d (.lit z1t)))(hk:(decide (0<kk))=true)(hfr:(z1k x hp&&z1q x tm)=true)(h:Run P f R k ⟨n,(t,.ref (0,x))::tm,(x,.row e kk [])::hp,up⟩):Run P f R k ⟨n,tm,hp,up⟩:=by
 refine Run.step (fun β own a w hr b fs=>⟨z69 β x z1t,own,a,w,?_,Ext.refl _ _,z3a _ _ _,.refl _ _⟩) h
 have h1:=hr.nilrow x e kk (by simpa using hk) hfr
 refine⟨h1.size,h1.defers,fun u q hu=>?_,h1.heap⟩
 simp only[look]at hu
 split at hu
 ·rename_i e;subst e;simp at hu;subst hu
  have h2:=(hr.tm t _ ht).lit
  have h3:=PR.ref (β:=z69 β x z1t) (w:=w) (own:=own) (0,x)
  rw[z2d]at h3
  rw[h2];exact h3
 ·exact h1.tm u q hu
theorem z4q(ms j x e kk:Nat){cs:List PV}(hb:look hp ms=some (.box cs))(hj:cs[j]? =some (.d (.lit z1t)))(hk:(decide (0<kk)&&!(ms == x))=true)(hfr:(z1k x hp&&z1q x tm)=true)
 (h:Run P f R k ⟨n,tm,(ms,.box (cs.set j (.ref (0,x))))::(x,.row e kk [])::hp,up⟩):Run P f R k ⟨n,tm,hp,up⟩:=by
 simp only[zA7,zA3,zA6,beq_eq_false_iff_ne]at hk
 refine Run.step (fun β own a w hr b fs=>⟨z69 β x z1t,own,a,w,?_,Ext.refl _ _,z3a _ _ _,.refl _ _⟩) h
 have h1:=hr.nilrow x e kk hk.1 hfr
 have hne:((0,ms):Nm)≠(0,x):=by simpa using hk.2
 have hlk:z19 (push ((x,.row e kk [])::hp) up) (0,ms)=some (.box cs):=by rw[z2t,zAy hne];exact hb
 refine⟨h1.size,h1.defers,h1.tm,?_⟩
 have e1:push ((ms,.box (cs.set j (.ref (0,x))))::(x,.row e kk [])::hp) up=upd (push ((x,.row e kk [])::hp) up) (0,ms) (.box (cs.set j (.ref (0,x)))):=by
  rw[←z4p ⟨n,tm,(x,.row e kk [])::hp,up⟩ (0,ms)];rfl
 rw[e1]
 refine h1.heap.change hlk rfl (Ext.refl _ _) rfl (fun g hg=>rfl) ?_
 have hbr:=h1.heap.blk _ _ hlk
 show BR (z69 β x z1t) w own (z69 β x z1t (0,ms)) (.box (cs.set j (.ref (0,x))))
 generalize z69 β x z1t (0,ms)=u at hbr
 cases hbr with
 | box g t _ cur ho hg hl h2 hd =>
  refine .box g t _ cur ho hg (by rw[List.length_set];exact hl) h2 fun i q v hq hv=>?_
  by_cases e:i=j
  ·subst e
   have hlt:=(zA1.1 hj).1
   rw[zAp hlt]at hq
   simp at hq;subst hq
   have h3:=(hd i _ v hj hv).lit
   have h4:=PR.ref (β:=z69 β x z1t) (w:=w) (own:=own) (0,x)
   rw[z2d]at h4
   rw[h3];exact h4
  ·rw[List.getElem?_set_ne (Ne.symm e)]at hq
   exact hd i q v hq hv
theorem z5w{id:Nat}{ops:List Oper}{s0:St}{done:List Eff}{gr:List (Nat × PV)}{t:TypeId}{ti:TI}[ht:z1d P t ti]{x y:Operand}{ms q off e kk:Nat}{ys:List (List D)}{cs:List PV}
 (hg:GOK ops.toArray gd gr ⟨n,tm,hp,up⟩) (hev:St.evs ⟨n,tm,hp,up⟩ [x,y]=some [.ptr (0,ms) off,.ref (0,q)]) (hb:look hp ms=some (.box cs)) (hq:look hp q=some (.row e kk ys))
 (hs:ti.size=1) (hf:decide (off+1≤cs.length)=true)
 (h:Tr P f R id ops k s0 (done++[⟨gr++rd [(x,.ptr (0,ms) off),(y,.ref (0,q))],[((0,ms),.box cs),((0,q),.row e kk ys)],[],[],[((0,ms),.box (z1b cs off [.ref (0,q)]))]⟩]) ⟨n,tm,(ms,.box (z1b cs off [.ref (0,q)]))::hp,up⟩ l) :
 Tr P f R id ops k s0 done ⟨n,tm,hp,up⟩ (⟨none,.store t x y,ty,pos,aft,gd⟩::l):=by
 have hx:=evE (xs:=[(x,.ptr (0,ms) off),(y,.ref (0,q))]) hev
 refine y12 (e:=⟨rd [(x,.ptr (0,ms) off),(y,.ref (0,q))],[((0,ms),.box cs),((0,q),.row e kk ys)],[],[],[((0,ms),.box (z1b cs off [.ref (0,q)]))]⟩) (gr:=gr) hg ?_ ⟨z45 hx,?_,by simp⟩ rfl h
 ·intro s2 hn ha
  obtain⟨h1,h2,_⟩:=z5n hx ha.ins
  have hb2:=ha.pre ((0,ms),.box cs) (by simp)
  have hq2:=ha.pre ((0,q),.row e kk ys) (by simp)
  have hok:z8i s2 (.ref (0,q))=true:=by
   have:=z30 hq2
   simp only[z8i,this];rfl
  exact zbk ht h1 h2 hb2 (raw':=.box (z1b cs off [.ref (0,q)])) rfl rfl hok (by simp[hs]) (by simpa using hf) rfl
 ·intro z hz
  simp only[zAc,List.not_mem_nil,or_false]at hz
  rcases hz with rfl|rfl
  ·exact hb
  ·exact hq
theorem zd1{t:TypeId}{ti:TI}{lp:List (Nat × Operand)}{qs:List (Nat × List PV)}{cs:List PV}{p:PV}[ht:z1d P t ti](hk:ti.kind=.struct)(hq:St.parts ⟨n,tm,hp,up⟩ lp=some qs)(hok:St.okParts ⟨n,tm,hp,up⟩ lp=true)
 (hf:z61 (fun i=>ti.fields[i]?) (z5q ti.zero) qs=some cs) (hm:mk cs=p) (hz:zgf ti=true) (hd:d<n) (h:Ops P f R all l k ⟨n,(d,p)::tm,hp,up⟩):Op1 P f R all ⟨some d,.build t lp.toArray,ty,pos,aft,gd⟩ l k ⟨n,tm,hp,up⟩ :=
 z0b (zqg hq hok hf hm hk hz hd) h
end Go.Ab
namespace Go.Ab
variable{P:Program}{f:FuncId}{R:z4b}{k:List Item}{all:Array Oper}{o:Oper}{l:List Oper}
variable{n:Nat}{tm:List (Nat × PV)}{hp:Hp}{up:Hf}{d:Nat}{ty:TypeId}{pos:String}{aft:Array Edge}{gd:Option (Nat × Bool)}{op:Op}{p:PV}
section
variable{x:Operand}{t:TypeId}{ti:TI}{s:ByteArray}{ms at_:Nat}
theorem zaj [ht:z1d P t ti](hk:ti.kind=.str)(hev:St.evs ⟨n,tm,hp,up⟩ [x]=some [S s])(hfr:(z1k d hp&&z1q d tm)=true)(hd:d<n)(h:Ops P f R all l k ⟨n,(d,.ptr (0,d) 0)::tm,(d,.siter s 0)::hp,up⟩) :
 Op1 P f R all ⟨some d,.range t x,ty,pos,aft,gd⟩ l k ⟨n,tm,hp,up⟩:=by
 obtain⟨h1,_⟩:=evE (xs:=[(x,S s)]) hev
 refine z0b ?_ h
 intro β own a w hr
 have he:=Ext.alloc w own (.stringIter s 0)
 have hin:=hr.install (d:=d) hfr he (fun g hg=>by rcases hg with hg|rfl;exact zAx (hr.heap.lt g hg) (by simp);simp) (v:=.pointer (some ⟨w.heap.size,0,none⟩)) (b:=.siter s 0)
  (z6m hr.heap _ _ _ rfl) (.siter w.heap.size s 0 (.inr rfl) (z5l w _))
 refine⟨_,.pointer (some ⟨w.heap.size,0,none⟩),w.alloc (.stringIter s 0),z69 β d (.pointer (some ⟨w.heap.size,0,none⟩)),_,?_,.inl rfl,?_,he,z3a _ _ _⟩
 ·have h2:=run_range_string (P:=P) w t s (ht.str hk)
  simp only[execOp,(hr.ev h1).lit]
  rw[Sem.run_bind,h2];rfl
 ·exact hin.put (dst:=some d) (p:=.ptr (0,d) 0) (by simp[St.fits,hd]) (.ptr _ 0 w.heap.size (z2d _ _ _))
def World.setObj'(w:World)(r:Nat)(o:Obj):World:={ w with heap:=w.heap.setIfInBounds r o }
theorem Rep.siter{s':St}{β:Nm→Value}{own:Nat→Prop}{a:Act}{w:World}(h:Rep s' β own a w){m:Nm}(hb:z19 (push s'.hp s'.up) m=some (.siter s at_)) :
 ∃g,β m=.pointer (some ⟨g,0,none⟩)∧own g∧w.heap[g]? =some (.stringIter s at_):=by
 have:=h.heap.blk m _ hb
 generalize hv:β m=v at this
 cases this with
 | siter g _ _ ho hg=>exact⟨g,rfl,ho,hg⟩
theorem zcg{w:World}{g:Nat}{tt:TypeId}(hg:w.heap[g]? =some (.stringIter s at_)) :
 (Instr.next (.pointer (some ⟨g,0,none⟩)) true tt).run P w=if at_<s.size then .ok (.tuple #[.bool true,goInt at_,.int .i32 (Utf8.decode s at_).1]) (World.setObj' w g (.stringIter s (at_+(Utf8.decode s at_).2)))else .ok (.tuple #[.bool false]) w:=by
 simp only[Instr.next,getObj,setObj,Sem.run_bind,Sem.run,hg,Result.andThen]
 split <;> rename_i h
 ·simp only[h,if_true,Sem.run,hg,Result.andThen,Sem.run_bind]
  simp[Sem.run,hg,World.setObj']
 ·simp[h,Sem.run]
theorem z3e(hlt:at_<s.size)(hev:St.evs ⟨n,tm,hp,up⟩ [x]=some [.ptr (0,ms) 0])(hb:look hp ms=some (.siter s at_))(hd:d<n)
 (h:Ops P f R all l k ⟨n,(d,.tup [B true,I .i64 at_,I .i32 (Utf8.decode s at_).1])::tm,(ms,.siter s (at_+(Utf8.decode s at_).2))::hp,up⟩) :
 Op1 P f R all ⟨some d,.next x true,ty,pos,aft,gd⟩ l k ⟨n,tm,hp,up⟩:=by
 obtain⟨h1,_⟩:=evE (xs:=[(x,.ptr (0,ms) 0)]) hev
 refine z0b ?_ h
 intro β own a w hr
 have hlk:z19 (push hp up) (0,ms)=some (.siter s at_):=hb
 obtain⟨g,hβ,hog,hg⟩:=hr.siter (s':=⟨n,tm,hp,up⟩) hlk
 have hxv:=hr.ev h1
 generalize hv:a.eval x=v at hxv
 cases hxv with
 | ptr _ _ g' hb' =>
  rw[hβ]at hb';simp at hb';subst hb'
  have hgl:=(Array.getElem?_eq_some_iff.1 hg).1
  have hoth:∀g',g'≠g→(World.setObj' w g (.stringIter s (at_+(Utf8.decode s at_).2))).heap[g']? =w.heap[g']?:=fun g' hg'=>by
   simp only[World.setObj']
   rw[Array.getElem?_setIfInBounds_ne (Ne.symm hg')]
  have he:Ext w own (World.setObj' w g (.stringIter s (at_+(Utf8.decode s at_).2))) own :=
   ⟨rfl,rfl,rfl,by simp[World.setObj'],fun b hb ho=>hoth b fun e=>ho (e▸hog),fun b hb ho=>ho⟩
  have hch:=hr.heap.change (m:=(0,ms)) (raw:=.siter s (at_+(Utf8.decode s at_).2)) hlk rfl he (by simp[World.setObj']) (fun g' hg'=>hoth g' fun e=>hg' (by rw[hβ,e];rfl))
   (by rw[hβ];exact .siter g s _ hog (by simp[World.setObj',hgl]))
  refine⟨_,.tuple #[.bool true,goInt at_,.int .i32 (Utf8.decode s at_).1],World.setObj' w g (.stringIter s (at_+(Utf8.decode s at_).2)),β,own,?_,.inl rfl,?_,he,rfl⟩
  ·simp only[execOp,hv];rw[Sem.run_bind,zcg hg,zAz hlt];rfl
  ·have e1:push ((ms,.siter s (at_+(Utf8.decode s at_).2))::hp) up=upd (push hp up) (0,ms) (.siter s (at_+(Utf8.decode s at_).2)):=by
    rw[←z4p ⟨n,tm,hp,up⟩ (0,ms)];rfl
   have hr2:Rep ⟨n,tm,(ms,.siter s (at_+(Utf8.decode s at_).2))::hp,up⟩ β own a (World.setObj' w g (.stringIter s (at_+(Utf8.decode s at_).2))) :=
    ⟨hr.size,hr.defers,fun t q hq=>(hr.tm t q hq).mono he,by rw[e1];exact hch⟩
   refine hr2.put (dst:=some d) (by simp[St.fits,hd]) (.tup [B true,I .i64 at_,I .i32 (Utf8.decode s at_).1] [.bool true,goInt at_,.int .i32 (Utf8.decode s at_).1] rfl fun j q u hq hu=>?_)
   match j with
   | 0=>simp at hq hu;subst hq hu;exact .B _
   | 1=>simp at hq hu;subst hq hu;exact .I _ _
   | 2=>simp at hq hu;subst hq hu;exact .I _ _
   | j+3=>simp at hq
theorem z3f(hlt:¬at_<s.size)(hev:St.evs ⟨n,tm,hp,up⟩ [x]=some [.ptr (0,ms) 0])(hb:look hp ms=some (.siter s at_))(hd:d<n)
 (h:Ops P f R all l k ⟨n,(d,.tup [B false])::tm,hp,up⟩):Op1 P f R all ⟨some d,.next x true,ty,pos,aft,gd⟩ l k ⟨n,tm,hp,up⟩:=by
 obtain⟨h1,_⟩:=evE (xs:=[(x,.ptr (0,ms) 0)]) hev
 refine z0b (z1c rfl hd fun β own a w hr=>?_) h
 have hlk:z19 (push hp up) (0,ms)=some (.siter s at_):=hb
 obtain⟨g,hβ,hog,hg⟩:=hr.siter (s':=⟨n,tm,hp,up⟩) hlk
 have hxv:=hr.ev h1
 generalize hv:a.eval x=v at hxv
 cases hxv with
 | ptr _ _ g' hb' =>
  rw[hβ]at hb';simp at hb';subst hb'
  refine⟨.tuple #[.bool false],by simp only[execOp,hv];rw[Sem.run_bind,zcg hg,zAy hlt];rfl,.tup [B false] [.bool false] rfl fun j q u hq hu=>?_⟩
  match j with
  | 0=>simp at hq hu;subst hq hu;exact .B _
  | j+1=>simp at hq
end
section
variable{x y z:Operand}{t e e':TypeId}{ti te:TI}{kk:Nat}{k1 k2:IntKind}{i j:Int}{m:Nm}{ys:List (List D)}
theorem Rep.rowv{s:St}{β:Nm→Value}{own:Nat→Prop}{a:Act}{w:World}(h:Rep s β own a w){m:Nm}{e:TypeId}{k:Nat}{xs:List (List D)}(hb:z5e s m=some (.row e k xs)):∃ad cap,β m=.slice ad xs.length cap∧xs.length≤cap:=by
 obtain⟨vs,ho,hkk,hown,hrr⟩:=h.row ((z30 hb).trans (by rw[z7q]))
 rcases hown.2 with h|⟨g,cap,cur,hv,_,_,hc,_⟩
 ·rw[h.2];exact⟨_,_,h.1,zAj _⟩
 ·exact⟨_,_,hv,hc⟩
theorem zi5 [ht:z1d P t ti][he:z1d P e te](hk:ti.kind=.slice e)(h0:0≤i)(h1:i≤ys.length)(hkk:te.size=kk) :
 Val P (.slice t x (some y) none none) ty [(x,.ref m),(y,I k1 i)] [(m,.row e' kk ys)] (.rsub m kk i.toNat (ys.length-i.toNat)):=fun d pos aft gd n tm hp up hd hx hb =>
 z1c rfl hd fun β own ac w hr=>by
  obtain⟨ad,cap,hv,hc⟩:=hr.rowv hb.1
  have hxv:=hr.ev hx.1
  generalize hv':ac.eval x=v at hxv
  cases hxv with
  | ref _ =>
   refine⟨_,?_,.rsub m kk i.toNat (ys.length-i.toNat) ys.length cap ad hv (by omega) hc⟩
   simp only[execOp,hv',(hr.ev hx.2.1).lit,hv,Option.map_some,Option.map_none]
   simp[Instr.sliceAt,Instr.slice,Instr.sliceBounds,Instr.sliceBound,asIntOf,run_underlying (ht.slice hk),h0,h1,he.sizeOf,hkk]
theorem z9n.sub{w:World}{own:Nat→Prop}{ys:List (List D)}{vs:List Value}(h:z9n w own kk ys vs){a c:Nat}(hac:a+c≤ys.length):z9n w own kk ((ys.drop a).take c) ((vs.drop (a*kk)).take (c*kk)):=by
 have hl:=h.2.1
 have hm:(a+c)*kk≤ys.length*kk:=Nat.mul_le_mul_right _ hac
 rw[Nat.add_mul]at hm
 have e1:min (c*kk) (vs.length-a*kk)=c*kk:=by omega
 have e2:min c (ys.length-a)=c:=by omega
 refine⟨fun z hz=>h.1 z (List.mem_of_mem_drop (List.mem_of_mem_take hz)),?_,fun v hv=>h.2.2.1 v (List.mem_of_mem_drop (List.mem_of_mem_take hv)),fun i z hz j u hu=>?_⟩
 ·rw[zAm,zAm,List.length_drop,List.length_drop,e1,e2]
 ·rw[List.getElem?_take]at hz
  split at hz
  ·rename_i hi
   rw[List.getElem?_drop]at hz
   obtain⟨v,hv,hd⟩:=h.2.2.2 _ z hz j u hu
   have hjk:j<kk:=by have:=h.1 z (zA2 hz);have:=(zA1.1 hu).1;omega
   refine⟨v,?_,hd⟩
   have:(i+1)*kk≤c*kk:=Nat.mul_le_mul_right _ hi
   rw[Nat.add_mul]at this
   rw[List.getElem?_take,zAz (by omega),List.getElem?_drop,←hv]
   congr 1
   rw[Nat.add_mul];omega
  ·cases hz
theorem z9n.z1b{w:World}{own:Nat→Prop}{ys zs:List (List D)}{vs us:List Value}(h:z9n w own kk ys vs)(h':z9n w own kk zs us){a:Nat}(hac:a+zs.length≤ys.length):z9n w own kk (z1b ys a zs) (z1b vs (a*kk) us):=by
 have hl:=h.2.1
 have hl':=h'.2.1
 have hm:(a+zs.length)*kk≤ys.length*kk:=Nat.mul_le_mul_right _ hac
 rw[Nat.add_mul]at hm
 refine⟨fun z hz=>?_,by rw[z1l,z1l];exact hl,fun v hv=>?_,fun i z hz j u hu=>?_⟩
 ·obtain⟨i,hi⟩:=zAw hz
  rw[z34 _ _ _ hac]at hi
  split at hi
  ·exact h'.1 z (zA2 hi)
  ·exact h.1 z (zA2 hi)
 ·obtain⟨i,hi⟩:=zAw hv
  rw[z34 _ _ _ (by omega)]at hi
  split at hi
  ·exact h'.2.2.1 v (zA2 hi)
  ·exact h.2.2.1 v (zA2 hi)
 ·rw[z34 _ _ _ hac]at hz
  rw[z34 _ _ _ (by omega)]
  split at hz
  ·rename_i hc
   obtain⟨v,hv,hd⟩:=h'.2.2.2 _ z hz j u hu
   have hjk:j<kk:=by have:=h'.1 z (zA2 hz);have:=(zA1.1 hu).1;omega
   refine⟨v,?_,hd⟩
   have h1:a*kk≤i*kk:=Nat.mul_le_mul_right _ hc.1
   have h2:(i-a+1)*kk≤zs.length*kk:=Nat.mul_le_mul_right _ (by omega)
   rw[Nat.add_mul,Nat.sub_mul]at h2
   rw[zAz (by omega),←hv]
   congr 1
   rw[Nat.sub_mul];omega
  ·rename_i hc
   obtain⟨v,hv,hd⟩:=h.2.2.2 _ z hz j u hu
   have hjk:j<kk:=by have:=h.1 z (zA2 hz);have:=(zA1.1 hu).1;omega
   refine⟨v,?_,hd⟩
   rw[zAy,hv]
   intro hc2
   rcases Nat.lt_or_ge i a with h1|h1
   ·have:(i+1)*kk≤a*kk:=Nat.mul_le_mul_right _ h1
    rw[Nat.add_mul]at this;omega
   ·have h3:a+zs.length≤i:=by omega
    have:(a+zs.length)*kk≤i*kk:=Nat.mul_le_mul_right _ h3
    rw[Nat.add_mul]at this;omega
theorem zp4{s:St}{x y:Operand}{t1 t2:TypeId}{ti te:TI}(ht:z1d P t1 ti)(he:z1d P e te)(hk:ti.kind=.slice e){m:Nm}{lo len:Nat}{zs:List (List D)}(hx:s.ev x=some (.rsub m kk lo len))(hb:z5e s m=some (.row e' kk ys))(hkk:te.size=kk)
 (hd:d<s.n) (hlo:lo+len≤ys.length) (hm:m.1=0)
 (hsrc:∀β own a w,Rep s β own a w→∃(ad:Option Addr) (len' cap':Nat) (us:List Value),a.eval y=.slice ad len' cap'∧zs.length=Nat.min len' len∧z9n w own kk zs us∧(zs≠[]→∃a',ad=some a'∧∀j u,us[j]? =some u→w.cell? (a'.add j)=some u)) :
 z1z P ⟨some d,.call ⟨.builtin .copy,#[x,y],#[t1,t2]⟩,ty,pos,aft,gd⟩ s (s.app ⟨[],[],[],[(d,I .i64 zs.length)],[(m,.row e' kk (z1b ys lo zs))]⟩):=by
 obtain⟨n,tm,hp,up⟩:=s
 obtain⟨md,ms⟩:=m
 simp only at hm hd
 subst hm
 intro β own a w hr
 obtain⟨ad,len',cap',us,hyv,hzl,hrz,hcell⟩:=hsrc β own a w hr
 have hlk:=(z30 hb).trans (by rw[z7q])
 obtain⟨vs,ho,hk0,hown,hrr⟩:=hr.row hlk
 have hxv:=hr.ev hx
 generalize hv':a.eval x=v at hxv
 cases hxv with
 | rsub _ _ _ _ L cap ad0 hβ hL hcap =>
 have hzlen:zs.length≤len:=by rw[hzl];exact Nat.min_le_right _ _
 by_cases hz0:zs=[]
 ·subst hz0
  have hmin:min len' len=0:=hzl.symm
  have hl0:∀(x:Addr),(loadCells x 0).run P w=.ok #[] w:=fun x=>by simpa using run_loadCells_list (P:=P) w x [] (by simp)
  have e1:z1b ys lo []=ys:=by cases ys <;> simp[Ab.z1b]
  have hrun:(Builtin.copy_ #[t1,t2] ty #[.slice (if cap=lo then ad0 else ad0.map (·.add (lo*kk))) len (cap-lo),.slice ad len' cap']).run P w=.ok (goInt 0) w:=by
   generalize (if cap=lo then ad0 else ad0.map (·.add (lo*kk)))=q
   have hmin2:Nat.min len' len=0:=hmin
   cases q <;> cases ad <;> simp[Builtin.copy_,run_underlying (ht.slice hk),Builtin.lenOf,Builtin.firstCells,he.sizeOf,hmin2,storeCells,hl0]
  refine⟨_,goInt 0,w,β,own,by simp[execOp,resolve,invoke,builtin,hv',hyv,hrun],.inl rfl,?_,Ext.refl _ _,rfl⟩
  rw[e1]
  have e2:push ((ms,.row e' kk ys)::hp) up=upd (push hp up) (0,ms) (.row e' kk ys):=by rw[←z4p ⟨n,tm,hp,up⟩ (0,ms)];rfl
  have hr2:Rep ⟨n,tm,(ms,.row e' kk ys)::hp,up⟩ β own a w:=⟨hr.size,hr.defers,hr.tm,by rw[e2,z8o (by exact hb)];exact hr.heap⟩
  exact hr2.put (dst:=some d) (by simp[St.fits,hd]) (.I _ _)
 ·have hz1:0<zs.length:=Nat.pos_of_ne_zero fun h=>hz0 (List.eq_nil_of_length_eq_zero h)
  obtain⟨a',rfl,hcl⟩:=hcell hz0
  rcases hown.2 with⟨h1,h2⟩|⟨g,cap2,cur,hv2,_,hg,hle,hmx,hcs,htake⟩
  ·omega
  ·rw[hβ]at hv2
   simp at hv2
   obtain⟨rfl,hLy,rfl⟩:=hv2
   have hne:cap≠lo:=by omega
   have hul:=hrz.2.1
   have hll:=run_loadCells_list (P:=P) w a' us hcl
   rw[hul]at hll
   have hvl:vs.length=ys.length*kk:=hrr.2.1
   have hfit:lo*kk+us.length≤cur.size:=by
    rw[hul,hcs,←Nat.add_mul]
    exact Nat.mul_le_mul_right _ (by omega)
   have hst:=run_storeCells_at P g (lo*kk) e' us 0 cur w hg (by simpa using hfit) hrz.2.2.1
   have hadd:(⟨g,0,none⟩:Addr).add (lo*kk)=⟨g,lo*kk,none⟩:=by rw[z4t];simp
   have hmin2:Nat.min len' len=zs.length:=hzl.symm
   have hrun:(Builtin.copy_ #[t1,t2] ty #[.slice (if cap=lo then some ⟨g,0,none⟩else(some (⟨g,0,none⟩:Addr)).map (·.add (lo*kk))) len (cap-lo),.slice (some a') len' cap']).run P w=.ok (goInt zs.length) (w.setRow g (z1b cur.toList (lo*kk) us).toArray):=by
    rw[zht _ _ _ (by simpa using hfit)]
    simp only[Nat.add_zero]at hst
    simp[Builtin.copy_,run_underlying (ht.slice hk),Builtin.lenOf,Builtin.firstCells,he.sizeOf,hmin2,hne,hadd,hkk,hll,hst]
   have hog:own g:=ho g (by rw[hβ];rfl)
   have hE:Ext w own (w.setRow g (z1b cur.toList (lo*kk) us).toArray) own :=
    ⟨rfl,rfl,rfl,by simp,fun b hb ho=>setRow_other w g b _ fun e=>ho (e▸hog),fun b hb ho=>ho⟩
   have hrow:=(hrr.z1b hrz (a:=lo) (by omega)).mono hE
   have hvf:lo*kk+us.length≤vs.length:=by rw[hvl,hul,←Nat.add_mul];exact Nat.mul_le_mul_right _ (by omega)
   have htl:vs.length=min (ys.length*kk) cur.size:=by rw[←htake,zAm];simp
   have hbr:BR β (w.setRow g (z1b cur.toList (lo*kk) us).toArray) own (β (0,ms)) (atF (0,ms) (.row e' kk (z1b ys lo zs))):=by
    rw[z7q]
    refine .row _ e' kk _ (z1b vs (lo*kk) us) ho hk0 ⟨by rw[z1l,z1l];exact hvl,.inr ⟨g,cap,_,by rw[z1l,hβ,hLy],zAf _,setRow_heap w g cur _ e' _ hg,by rw[z1l];exact hle,hmx,by simp[z1l,hcs],?_⟩⟩ hrow
    rw[z1l]
    simp only[List.toList_toArray]
    rw[zad _ _ _ _ (by omega) (by simp;omega),htake]
   have hheap:=hr.heap.change (raw:=.row e' kk (z1b ys lo zs)) hlk rfl hE (by simp) (fun g' hg'=>setRow_other w g g' _ fun e=>hg' (by rw[hβ,e];rfl)) hbr
   refine⟨_,goInt zs.length,_,β,own,by simp only[Option.map_some]at hrun hv';simp[execOp,resolve,invoke,builtin,hv',hyv,hrun],.inl rfl,?_,hE,rfl⟩
   have e2:push ((ms,.row e' kk (z1b ys lo zs))::hp) up=upd (push hp up) (0,ms) (.row e' kk (z1b ys lo zs)):=by rw[←z4p ⟨n,tm,hp,up⟩ (0,ms)];rfl
   have hr2:Rep ⟨n,tm,(ms,.row e' kk (z1b ys lo zs))::hp,up⟩ β own a (w.setRow g (z1b cur.toList (lo*kk) us).toArray) :=
    ⟨hr.size,hr.defers,fun t q hq=>(hr.tm t q hq).mono hE,by rw[e2];exact hheap⟩
   exact hr2.put (dst:=some d) (by simp[St.fits,hd]) (.I _ _)
theorem zu5{s:St}{β:Nm→Value}{own:Nat→Prop}{a:Act}{w:World}(hr:Rep s β own a w){m:Nm}{lo len c:Nat}(hb:z5e s m=some (.row e' kk ys))(hlo:lo+len≤ys.length){v:Value}(hv:PR β w own (.rsub m kk lo len) v)(hc:c≤len) :
 ∃(ad:Option Addr) (cap':Nat) (us:List Value),v=.slice ad len cap'∧z9n w own kk ((ys.drop lo).take c) us∧((ys.drop lo).take c≠[]→∃a',ad=some a'∧∀j u,us[j]? =some u→w.cell? (a'.add j)=some u):=by
 obtain⟨vs,ho,hk0,hown,hrr⟩:=hr.row ((z30 hb).trans (by rw[z7q]))
 cases hv with
 | rsub _ _ _ _ L cap ad0 hβ hL hcap =>
  refine⟨_,_,(vs.drop (lo*kk)).take (c*kk),rfl,hrr.sub (by omega),fun hne=>?_⟩
  have hlen:0<((ys.drop lo).take c).length:=Nat.pos_of_ne_zero fun h=>hne (List.eq_nil_of_length_eq_zero h)
  simp at hlen
  rcases hown.2 with⟨h1,h2⟩|⟨g,cap2,cur,hv2,_,hg,hle,hmx,hcs,htake⟩
  ·omega
  ·rw[hβ]at hv2;simp at hv2
   obtain⟨rfl,hLy,rfl⟩:=hv2
   refine⟨⟨g,lo*kk,none⟩,?_,fun j u hu=>?_⟩
   ·rw[zAy (by omega)]
    simp[z4t]
   ·rw[List.getElem?_take]at hu
    split at hu
    ·rw[List.getElem?_drop,←htake,List.getElem?_take]at hu
     split at hu
     ·rw[z4t,cell_of_row w g _ cur e' (0,0) hg]
      simpa using hu
     ·cases hu
    ·cases hu
theorem zei{id:Nat}{ops:List Oper}{s0:St}{done:List Eff}{gr:List (Nat × PV)}[ht:z1d P t ti][he:z1d P e te]{ms lo len lo' len' c:Nat}{ys':List (List D)}(hg:GOK ops.toArray gd gr ⟨n,tm,hp,up⟩)(hk:ti.kind=.slice e)(hev:St.evs ⟨n,tm,hp,up⟩ [x,y]=some [.rsub (0,ms) kk lo len,.rsub (0,ms) kk lo' len'])
 (hb:look hp ms=some (.row e' kk ys)) (hkk:te.size=kk) (hd:d<n) (h1:lo+len≤ys.length) (h2:lo'+len'≤ys.length) (hc:c=min len' len) (hys:z1b ys lo ((ys.drop lo').take c)=ys')
 (h:Tr P f R id ops k s0 (done++[⟨gr++rd [(x,.rsub (0,ms) kk lo len),(y,.rsub (0,ms) kk lo' len')],[((0,ms),.row e' kk ys)],[],[(d,I .i64 c)],[((0,ms),.row e' kk ys')]⟩]) ⟨n,(d,I .i64 c)::tm,(ms,.row e' kk ys')::hp,up⟩ l) :
 Tr P f R id ops k s0 done ⟨n,tm,hp,up⟩ (⟨some d,.call ⟨.builtin .copy,#[x,y],#[t,t]⟩,ty,pos,aft,gd⟩::l):=by
 have hxy:=evE (xs:=[(x,.rsub (0,ms) kk lo len),(y,.rsub (0,ms) kk lo' len')]) hev
 have hlen:((ys.drop lo').take c).length=c:=by simp;omega
 refine y12 (e:=⟨rd [(x,.rsub (0,ms) kk lo len),(y,.rsub (0,ms) kk lo' len')],[((0,ms),.row e' kk ys)],[],[(d,I .i64 c)],[((0,ms),.row e' kk ys')]⟩) (gr:=gr) hg ?_ ⟨z45 hxy,by simp[z5e,push,hb],by simp⟩ rfl h
 intro s2 hn ha
 obtain⟨hx,hy,_⟩:=z5n hxy ha.ins
 have hb2:=ha.pre ((0,ms),.row e' kk ys) (by simp)
 have:=zp4 (P:=P) (d:=d) (t2:=t) (ty:=ty) (pos:=pos) (aft:=aft) (gd:=gd) (zs:=(ys.drop lo').take c) ht he hk (s:=s2) hx hb2 hkk (by rw[hn];exact hd) h1 rfl fun β own a w hr=>by
  obtain⟨ad,cap',us,e1,e2,e3⟩:=zu5 (c:=c) hr hb2 h2 (hr.ev hy) (by omega)
  exact⟨ad,len',cap',us,e1,by rw[hlen,hc],e2,e3⟩
 rw[hlen,hys]at this
 exact this
end
end Go.Ab
namespace Go.Ab
variable{P:Program}{f:FuncId}{R:z4b}{k:List Item}{all:Array Oper}{o:Oper}{l:List Oper}
variable{n:Nat}{tm:List (Nat × PV)}{hp:Hp}{up:Hf}{d:Nat}{ty:TypeId}{pos:String}{aft:Array Edge}{gd:Option (Nat × Bool)}{op:Op}{p:PV}
theorem run_equalIn_bool{t:TypeId}(dd:Nat)(a b:Bool)(w:World)(h:P.underlying t=some .bool):(Op.equalIn (dd+1) t (.bool a) (.bool b)).run P w=.ok (a == b) w:=by
 simp[Op.equalIn,run_underlying h]
theorem run_equal_bool{t:TypeId}(a b:Bool)(w:World)(h:P.underlying t=some .bool):(Op.equal t (.bool a) (.bool b)).run P w=.ok (a == b) w:=by
 have:=run_equalIn_bool (P:=P) (t:=t) 9999 a b w h
 simp only[Op.equal,Op.maxDepth]
 exact this
section
variable{x y:Operand}{tx ty':TypeId}{a b:Bool}
theorem z9z{ti:TI}[ht:z1d P tx ti](hk:ti.kind=.bool):Val P (.binOp .eql tx x y ty') ty [(x,B a),(y,B b)] [] (B (decide (a=b))):=fun d pos aft gd n tm hp up hd hx hb =>
 z6w hx.1 hx.2.1 hd rfl fun w=>by simp[eqGuard,binOp,run_equal_bool _ _ _ (ht.bool hk)];cases a <;> cases b <;> rfl
theorem zwy{ti:TI}[ht:z1d P tx ti](hk:ti.kind=.bool):Val P (.binOp .neq tx x y ty') ty [(x,B a),(y,B b)] [] (B (!decide (a=b))):=fun d pos aft gd n tm hp up hd hx hb =>
 z6w hx.1 hx.2.1 hd rfl fun w=>by simp[eqGuard,binOp,run_equal_bool _ _ _ (ht.bool hk)];cases a <;> cases b <;> rfl
end
section
variable{t e e':TypeId}{ti te:TI}{x y:Operand}{m:Nm}{ms kk i off:Nat}{α:Type}{q q':List α}{g:α→List D}{v:α}{u:D}
theorem z23 [ht:z1d P t ti](hz:q[i]? =some v)(hu:(g v)[off]? =some u)(hs:ti.size=1)(ha:ti.agg=false):Val P (.load t x) ty [(x,.rptr m kk i off)] [(m,.row e' kk (q.map g))] (.d u) :=
 z96 (by simp[hz]) hu hs ha
theorem zeo [ht:z1d P t ti](hz:q[i]? =some v)(hs:(g v).length=ti.size)(ha:ti.agg=true):Val P (.load t x) ty [(x,.rptr m kk i 0)] [(m,.row e' kk (q.map g))] (.d (.agg (g v))) :=
 zv5 (z:=g v) (by simp[hz]) hs ha
theorem z22{ps:List PV}{ds:List D}[ht:z1d P t ti](v':α)(hev:St.evs ⟨n,tm,hp,up⟩ [x,y]=some [.rptr (0,ms) kk i off,p])(hb:look hp ms=some (.row e kk (q.map g)))(hp':cellsOf p=some ps)(hds:z8d ps=some ds)(hz:q[i]? =some v)(hv:z1b (g v) off ds=g v')(hs:ds.length=ti.size)
 (hf:decide (off+ds.length≤kk)=true) (hq:q.set i v'=q') (h:Ops P f R all l k ⟨n,tm,(ms,.row e kk (q'.map g))::hp,up⟩):Op1 P f R all ⟨none,.store t x y,ty,pos,aft,gd⟩ l k ⟨n,tm,hp,up⟩ :=
 zq5 hev hb hp' hds (z:=g v) (by simp[hz]) hs hf (by rw[hv,←hq,List.map_set]) h
theorem zep{id:Nat}{ops:List Oper}{s0:St}{done:List Eff}{gr:List (Nat × PV)}{ps:List PV}{ds:List D}[ht:z1d P t ti](v':α)(hg:GOK ops.toArray gd gr ⟨n,tm,hp,up⟩)(hev:St.evs ⟨n,tm,hp,up⟩ [x,y]=some [.rptr (0,ms) kk i off,p])(hb:look hp ms=some (.row e kk (q.map g)))
 (hp':cellsOf p=some ps) (hds:z8d ps=some ds) (hz:q[i]? =some v) (hv:z1b (g v) off ds=g v') (hs:ds.length=ti.size) (hf:decide (off+ds.length≤kk)=true) (hq:q.set i v'=q')
 (h:Tr P f R id ops k s0 (done++[⟨gr++rd [(x,.rptr (0,ms) kk i off),(y,p)],[((0,ms),.row e kk (q.map g))],[],[],[((0,ms),.row e kk (q'.map g))]⟩]) ⟨n,tm,(ms,.row e kk (q'.map g))::hp,up⟩ l):Tr P f R id ops k s0 done ⟨n,tm,hp,up⟩ (⟨none,.store t x y,ty,pos,aft,gd⟩::l) :=
 zpi hg hev hb hp' hds (z:=g v) (by simp[hz]) hs hf (by rw[hv,←hq,List.map_set]) h
end
theorem za2{g:FuncId}{ps:List PV}{x:PV}(h:NF P g ps fun p=>p=x):z0q P g ps x:=fun H=>(h H).mono fun r H' ⟨p,h1,h2,h3⟩=>⟨by rw[h1,h2],h3⟩
end Go.Ab
namespace Go.Ab
variable{P:Program}{f:FuncId}{R:z4b}{k:List Item}{all:Array Oper}{o:Oper}{l:List Oper}
variable{n:Nat}{tm:List (Nat × PV)}{hp:Hp}{up:Hf}{d:Nat}{ty:TypeId}{pos:String}{aft:Array Edge}{gd:Option (Nat × Bool)}{op:Op}{p:PV}
theorem z8q{s:St}{t e:TypeId}{ti te:TI}(ht:z1d P t ti)(he:z1d P e te){x y:Operand}{ys:List (List D)}(hx:s.ev x=some (.d (.lit z1t)))(hy:s.ev y=some (.d (.slice ys)))
 (hk:ti.kind=.slice e) (hys:∀y∈ys,y.length=te.size) (hz:te.zero.length=te.size) (hz0:te.size≠0) (hsm:ys.length*te.bytes≤140737488355328) (hsm2:ys.length≤9223372036854775807)
 (hf:(z1k d s.hp&&z1q d s.tm)=true) (hd:d<s.n) :
 z1z P ⟨some d,.call ⟨.builtin .append,#[x,y],#[t,t]⟩,ty,pos,aft,gd⟩ s (s.app ⟨[],[],[],[(d,.ref (0,d))],[((0,d),.row e te.size ys)]⟩):=by
 obtain⟨n,tm,hp,up⟩:=s
 simp only at hf hd
 intro β own a w hr
 have hyv:=hr.ev hy
 have hxv:=(hr.ev hx).lit
 generalize hu:a.eval y=u at hyv
 cases hyv with
 | d _ _ hyd =>
  have hk0:0<te.size:=by omega
  have hown:=World.ownsRow_nil w 0 e te.size
  have main:∃v' w' us,(Builtin.append_ #[t,t] ty #[z1t,u]).run P w=.ok v' w'∧w'.ownsRow 0 e te.size v' ys.length us∧w.grownBy w' none∧z9n w own te.size ys us∧(v'.ownBlock=none∨v'.ownBlock=some w.heap.size):=by
   by_cases hnil:ys=[]
   ·subst hnil
    obtain⟨b,cap',rfl⟩:=hyd.slice_len
    exact⟨z1t,w,[],z6x ht he hk none 0 0 b cap' (zAj _) w hz0,by simpa using hown,⟨rfl,rfl,rfl,zAj _,fun _ _ _=>rfl⟩,⟨by simp,by simp,by simp,by simp⟩,.inl rfl⟩
   ·obtain⟨ad,cap,us,rfl,hus,hcells⟩:=zid hyd hys hnil
    obtain⟨i,uu,z,hi,huu,hzi,hs,hb',hkk,hzz,_⟩:=he.get
    obtain⟨v',w',hrun,h1,h2,h3⟩:=z8e (P:=P) w 0 t ty e i z te.size te.bytes (ht.slice hk) hi hzi hs hb' (by rw[←zAe,hzz];exact hz) hk0 z1t 0 [] hown ad ys.length cap us hus.2.1 hcells hus.2.2.1
     (by unfold maxLen;omega) (by simpa using hsm) (zAf _) (by cases ys <;> simp_all)
    exact⟨v',w',us,hrun,by simpa using h1,h2,hus,h3⟩
  obtain⟨v',w',us,hrun,hown',hgrow,hus,hwhere⟩:=main
  have hblk:=z4l hown'
  have hE:Ext w own w' (fun g=>own g∨v'.ownBlock=some g):=by
   refine⟨hgrow.os,hgrow.tape,hgrow.output,hgrow.size,fun b hb hno=>hgrow.block b hb (by simp),fun b hb hno=>?_⟩
   rintro(h|h)
   ·exact hno h
   ·rcases hwhere with e|e
    ·rw[e]at h;cases h
    ·rw[e]at h;simp at h;omega
  have hrow:=hus.mono hE
  have hin:=hr.install (d:=d) (b:=.row e te.size ys) (v:=v') (own':=fun g=>own g∨v'.ownBlock=some g) hf hE
   (fun g hg=>by
     rcases hg with hg|hg
     ·exact zAx (hr.heap.lt g hg) hgrow.size
     ·exact(hown'.lt g hg).2)
   (fun q c hq hl hqd g hg=>by
     have hog:=(hr.heap.blk q c hq).block_lt hl hg
     refine⟨hgrow.block g (hr.heap.lt g hog) (by simp),.inl hog,fun _ e=>?_⟩
     rw[hblk]at e
     rcases hwhere with h|h
     ·rw[h]at e;cases e
     ·rw[h]at e;simp at e;have:=hr.heap.lt g hog;omega)
   (.row v' e te.size _ _ (fun g hg=>.inr hg) hk0 hown' hrow)
  refine⟨_,v',w',z69 β d v',_,?_,.inl rfl,?_,hE,z3a _ _ _⟩
  ·simp[execOp,resolve,invoke,builtin,hxv,hu,hrun]
  ·exact zD43
section
variable{t e:TypeId}{ti te:TI}{x y:Operand}{α:Type}{r:List α}{g:α→List D}
theorem zm8 [ht:z1d P t ti][he:z1d P e te](hev:St.evs ⟨n,tm,hp,up⟩ [x,y]=some [.d (.lit z1t),.d (.slice (r.map g))])(hk:ti.kind=.slice e)(hap:zks te=true)(hgl:∀v,(g v).length=te.size)(hbt:decide (te.bytes≤1024)=true)(hfr:(z1k d hp&&z1q d tm)=true)(hd:d<n)(hq:r.length<137438953472)
 (h:Ops P f R all l k ⟨n,(d,.ref (0,d))::tm,(d,.row e te.size (r.map g))::hp,up⟩):Op1 P f R all ⟨some d,.call ⟨.builtin .append,#[x,y],#[t,t]⟩,ty,pos,aft,gd⟩ l k ⟨n,tm,hp,up⟩:=by
 obtain⟨h1,h2,_⟩:=evE (xs:=[(x,.d (.lit z1t)),(y,.d (.slice (r.map g)))]) hev
 simp only[zks,zA7,beq_iff_eq,bne_iff_ne]at hap
 have hsm:r.length*te.bytes≤140737488355328:=z5m (by simpa using hbt) (by omega)
 exact z0b (z8q (P:=P) (d:=d) ht he (s:=⟨n,tm,hp,up⟩) h1 h2 hk (fun y hy=>by simp only[List.mem_map]at hy;obtain⟨v,_,rfl⟩:=hy;exact hgl v) hap.1 hap.2 (by simpa using hsm) (by simp;omega) hfr hd) h
theorem zfc{id:Nat}{ops:List Oper}{s0:St}{done:List Eff}{gr:List (Nat × PV)}[ht:z1d P t ti][he:z1d P e te](hg:GOK ops.toArray gd gr ⟨n,tm,hp,up⟩)(hev:St.evs ⟨n,tm,hp,up⟩ [x,y]=some [.d (.lit z1t),.d (.slice (r.map g))])(hk:ti.kind=.slice e)(hap:zks te=true)(hgl:∀v,(g v).length=te.size)
 (hbt:decide (te.bytes≤1024)=true) (hfr:(z1k d hp&&z1q d tm)=true) (hd:d<n) (hq:r.length<137438953472)
 (h:Tr P f R id ops k s0 (done++[⟨gr++rd [(x,.d (.lit z1t)),(y,.d (.slice (r.map g)))],[],[d],[(d,.ref (0,d))],[((0,d),.row e te.size (r.map g))]⟩]) ⟨n,(d,.ref (0,d))::tm,(d,.row e te.size (r.map g))::hp,up⟩ l) :
 Tr P f R id ops k s0 done ⟨n,tm,hp,up⟩ (⟨some d,.call ⟨.builtin .append,#[x,y],#[t,t]⟩,ty,pos,aft,gd⟩::l):=by
 simp only[zks,zA7,beq_iff_eq,bne_iff_ne]at hap
 have hsm:r.length*te.bytes≤140737488355328:=z5m (by simpa using hbt) (by omega)
 refine zre (xs:=[(x,.d (.lit z1t)),(y,.d (.slice (r.map g)))]) (bs:=[]) hg (fun s hn hx hb hf=>?_) hev rfl hfr rfl h
 exact z8q ht he hx.1 hx.2.1 hk (fun y hy=>by simp only[List.mem_map]at hy;obtain⟨v,_,rfl⟩:=hy;exact hgl v) hap.1 hap.2 (by simpa using hsm) (by simp;omega) hf (by rw[hn];exact hd)
end
theorem y60{op:BinOp}{x y:Operand}{tx ty':TypeId}{cs ds:List D}{r:Bool} (h:∀(w:World) (own:Nat→Prop) (us vs:List Value),DR w own (.agg cs) (.agg us.toArray)→DR w own (.agg ds) (.agg vs.toArray) →
 (do eqGuard op tx x y (.agg us.toArray) (.agg vs.toArray);binOp op tx (.agg us.toArray) (.agg vs.toArray):Sem Value).run P w=.ok (.bool r) w):Val P (.binOp op tx x y ty') ty [(x,.d (.agg cs)),(y,.d (.agg ds))] [] (B r):=fun d pos aft gd n tm hp up hd hx hb =>
 z1c rfl hd fun β own a w hr=>by
  have h1:=hr.ev hx.1
  have h2:=hr.ev hx.2.1
  generalize hu:a.eval x=u at h1
  generalize hv:a.eval y=v at h2
  cases h1 with
  | d _ _ h1=>cases h2 with
   | d _ _ h2 =>
    cases h1 with
    | agg _ us a1 a2 a3=>cases h2 with
     | agg _ vs b1 b2 b3 =>
      have:=h w own us vs (.agg _ us a1 a2 a3) (.agg _ vs b1 b2 b3)
      exact⟨.bool r,by simp only[execOp,hu,hv];rw[Sem.run_bind,this];rfl,.B _⟩
theorem DR.lits{w:World}{own:Nat→Prop}:∀ {xs us:List Value},DR w own (.agg (xs.map D.lit)) (.agg us.toArray)→us=xs:=by
 intro xs us h
 have key:∀(xs us:List Value),(xs.map D.lit).length=us.length→(∀(j:Nat) (x:D) (v:Value),(xs.map D.lit)[j]? =some x→us[j]? =some v→DR w own x v)→us=xs:=by
  intro xs
  induction xs with
  | nil=>intro us hl _;cases us <;> simp_all
  | cons x xs ih =>
   intro us hl hd
   cases us with
   | nil=>simp at hl
   | cons u us =>
    have h1:=hd 0 (.lit x) u rfl rfl
    have e:u=x:=by cases h1;rfl
    rw[e,ih us (by simpa using hl) fun j y v hy hv=>hd (j+1) y v (by simpa using hy) (by simpa using hv)]
 generalize hq:(Value.agg us.toArray)=q at h
 cases h with
 | agg _ vs hl h1 hd =>
  simp at hq
  subst hq
  exact key _ _ hl hd
theorem z11{fn:Func}{s:St}{t u ms:Nat}{ty:TypeId}{ti:TI}{x:D}[hty:z1d P ty ti]{cs:List PV}{ds:List D}(h:fn.results=#[.cell t ty,.tmp u])(ht:look s.tm t=some (.ptr (0,ms) 0))(hu:look s.tm u=some (.d x))(hb:look s.hp ms=some (.box cs))(hds:z8d cs=some ds)(hs:ds.length=ti.size)(ha:ti.agg=true) :
 Res P fn s (.v (.tup [.d (.agg ds),.d x])):=fun β own a w hrep=>by
 have hp:=hrep.tm t _ ht
 have hpu:=hrep.tm u _ hu
 obtain⟨g,tt,cur,hβ,ho,hg,hl0,h1,hd0⟩:=hrep.box (m:=(0,ms)) hb
 obtain⟨hl,_,hd⟩:=z5x (own:=own) (w:=w) (β:=β) ⟨hl0,h1,hd0⟩ hds
 refine⟨.tuple #[.agg cur.toArray,a.tmps.getD u undef],own,?_,Ext.refl _ _,hrep.heap.outer,?_⟩
 ·exact zD8
 ·refine .v _ _ (PR.low (β:=β) (y:=.tup [.d (.agg ds),.d x]) (.tup _ [.agg cur.toArray,a.tmps.getD u undef] rfl fun j p v hp hv=>?_) (.tup [.d (.agg ds),.d x]) rfl)
  match j with
  | 0 =>
   simp at hp hv;subst hp hv
   exact zD83
  | 1=>simp at hp hv;subst hp hv;rw[←Array.getD_eq_getD_getElem?];exact hpu
  | j+2=>simp at hp
end Go.Ab
namespace Go.Ab
variable{P:Program}{f:FuncId}{R:z4b}{k:List Item}{all:Array Oper}{o:Oper}{l:List Oper}
variable{n:Nat}{tm tm':List (Nat × PV)}{hp hp':Hp}{up:Hf}
inductive z2n(tm:List (Nat × PV)):List Nat→List (Nat × PV)→Prop where
 | nil:z2n tm [] []
 | yes {t:Nat} {p:PV} {ks:List Nat} {r:List (Nat × PV)} (h:look tm t=some p) (hr:z2n tm ks r):z2n tm (t::ks) ((t,p)::r)
 | no {t:Nat} {ks:List Nat} {r:List (Nat × PV)} (hr:z2n tm ks r):z2n tm (t::ks) r
theorem z2n.sub{ks:List Nat}(h:z2n tm ks tm'):Sub tm' tm:=by
 induction h with
 | nil=>trivial
 | yes h hr ih=>exact⟨h,ih⟩
 | no hr ih=>exact ih
inductive z13:List Nat→Hp→Hp→Prop where
 | nil {seen:List Nat}:z13 seen [] []
 | old {seen:List Nat} {t:Nat} {b:Blk} {r r':Hp} (h:seen.contains t=true) (hr:z13 seen r r'):z13 seen ((t,b)::r) r'
 | gone {seen:List Nat} {t:Nat} {r r':Hp} (hr:z13 (t::seen) r r'):z13 seen ((t,.gone)::r) r'
 | new {seen:List Nat} {t:Nat} {b:Blk} {r r':Hp} (h:seen.contains t=false) (hr:z13 (t::seen) r r'):z13 seen ((t,b)::r) ((t,b)::r')
theorem z13.look{seen:List Nat}(h:z13 seen hp hp'):∀(t:Nat) (b:Blk),Ab.look hp' t=some b→seen.contains t=false∧Ab.look hp t=some b:=by
 induction h with
 | nil=>intro t b h;simp[Ab.look]at h
 | @old seen t b r r' h hr ih =>
  intro u c hu
  obtain⟨h1,h2⟩:=ih u c hu
  refine⟨h1,?_⟩
  have:t≠u:=fun e=>by subst e;rw[h]at h1;cases h1
  simp[Ab.look,this,h2]
 | @gone seen t r r' hr ih =>
  intro u c hu
  obtain⟨h1,h2⟩:=ih u c hu
  simp only[List.contains_cons,Bool.or_eq_false_iff,beq_eq_false_iff_ne]at h1
  refine⟨h1.2,?_⟩
  simp[Ab.look,Ne.symm h1.1,h2]
 | @new seen t b r r' h hr ih =>
  intro u c hu
  simp only[Ab.look]at hu⊢
  split at hu
  ·rename_i e;subst e;exact⟨h,by simpa using hu⟩
  ·rename_i e
   obtain⟨h1,h2⟩:=ih u c hu
   simp only[List.contains_cons,Bool.or_eq_false_iff]at h1
   exact⟨h1.2,by rw[zAy e];exact h2⟩
theorem zw7(ks:List Nat)(h1:z2n tm ks tm')(h2:z13 [] hp hp')(h:Run P f R k ⟨n,tm',hp',up⟩):Run P f R k ⟨n,tm,hp,up⟩:=by
 refine Run.le (s:=⟨n,tm',hp',up⟩) (fun β own a w hr=>⟨β,rfl,hr.size,hr.defers,fun t p hp=>hr.tm t p (h1.sub.get hp),?_⟩) h
 have key:∀m b,z19 (push hp' up) m=some b→z19 (push hp up) m=some b:=by
  rintro⟨d,s⟩ b hb
  cases d with
  | zero=>exact(h2.look s b hb).2
  | succ d=>exact hb
 exact zD61
theorem z3o(ks:List Nat)(h1:z2n tm ks tm')(h2:z13 [] hp hp')(h:Run P f R k ⟨n,tm',hp',up⟩):Ops P f R all [] k ⟨n,tm,hp,up⟩:=z09 (zw7 ks h1 h2 h)
theorem z97{id:Nat}{ops:List Oper}{s0:St}{done:List Eff}(ks:List Nat)(hmix:P.follows .mixedOrders=true)(hchk:z6b ops s0 done=true)(h1:z2n tm ks tm')(h2:z13 [] hp hp')(h:Run P f R k ⟨n,tm',hp',up⟩):Tr P f R id ops k s0 done ⟨n,tm,hp,up⟩ [] :=
 y15 hmix hchk (zw7 ks h1 h2 h)
end Go.Ab
namespace Go.Ab
variable{P:Program}{f:FuncId}{R:z4b}{k:List Item}{all:Array Oper}{l:List Oper}{s s0:St}{done:List Eff}{id:Nat}{ops:List Oper}
variable{d:Nat}{dst:Option Nat}{ty:TypeId}{pos:String}{aft:Array Edge}{gd:Option (Nat × Bool)}
theorem z07(h:Run P f R k s):Run P f R k s:=h
theorem z06(h:Ops P f R all l k s):Ops P f R all l k s:=h
theorem z05{o:Oper}(h:Op1 P f R all o l k s):Op1 P f R all o l k s:=h
theorem z2m(h:Tr P f R id ops k s0 done s l):Tr P f R id ops k s0 done s l:=h
section
variable{x y z:Operand}{t t':TypeId}{i n:Nat}{op:BinOp}{a b c:Option Operand}{b':Builtin}{args:Array Operand}{ats:Array TypeId}{lp:Array (Nat × Operand)}{fo:Operand}{bb:Bool}
theorem z0a(h:Op1 P f R all ⟨some d,.load t x,ty,pos,aft,gd⟩ l k s):Op1 P f R all ⟨some d,.load t x,ty,pos,aft,gd⟩ l k s:=h
theorem z0c(h:Op1 P f R all ⟨some d,.fieldAddr t x i,ty,pos,aft,gd⟩ l k s):Op1 P f R all ⟨some d,.fieldAddr t x i,ty,pos,aft,gd⟩ l k s:=h
theorem z0k(h:Op1 P f R all ⟨some d,.indexAddr t x y,ty,pos,aft,gd⟩ l k s):Op1 P f R all ⟨some d,.indexAddr t x y,ty,pos,aft,gd⟩ l k s:=h
theorem z9p(h:Op1 P f R all ⟨some d,.index t x y,ty,pos,aft,gd⟩ l k s):Op1 P f R all ⟨some d,.index t x y,ty,pos,aft,gd⟩ l k s:=h
theorem z0t(h:Op1 P f R all ⟨some d,.binOp op t x y t',ty,pos,aft,gd⟩ l k s):Op1 P f R all ⟨some d,.binOp op t x y t',ty,pos,aft,gd⟩ l k s:=h
theorem zc0(h:Op1 P f R all ⟨some d,.slice t x a b c,ty,pos,aft,gd⟩ l k s):Op1 P f R all ⟨some d,.slice t x a b c,ty,pos,aft,gd⟩ l k s:=h
theorem z0s(h:Op1 P f R all ⟨some d,.call ⟨.builtin b',args,ats⟩,ty,pos,aft,gd⟩ l k s):Op1 P f R all ⟨some d,.call ⟨.builtin b',args,ats⟩,ty,pos,aft,gd⟩ l k s:=h
theorem z0j(h:Op1 P f R all ⟨some d,.call ⟨.value fo,args,ats⟩,ty,pos,aft,gd⟩ l k s):Op1 P f R all ⟨some d,.call ⟨.value fo,args,ats⟩,ty,pos,aft,gd⟩ l k s:=h
theorem z0f(h:Op1 P f R all ⟨none,.store t x y,ty,pos,aft,gd⟩ l k s):Op1 P f R all ⟨none,.store t x y,ty,pos,aft,gd⟩ l k s:=h
theorem z0l(h:Op1 P f R all ⟨some d,.alloc t,ty,pos,aft,gd⟩ l k s):Op1 P f R all ⟨some d,.alloc t,ty,pos,aft,gd⟩ l k s:=h
theorem z18(h:Op1 P f R all ⟨some d,.box t x,ty,pos,aft,gd⟩ l k s):Op1 P f R all ⟨some d,.box t x,ty,pos,aft,gd⟩ l k s:=h
theorem z1n(h:Op1 P f R all ⟨some d,.build t lp,ty,pos,aft,gd⟩ l k s):Op1 P f R all ⟨some d,.build t lp,ty,pos,aft,gd⟩ l k s:=h
theorem z3c(h:Op1 P f R all ⟨some d,.buildSlice t n lp,ty,pos,aft,gd⟩ l k s):Op1 P f R all ⟨some d,.buildSlice t n lp,ty,pos,aft,gd⟩ l k s:=h
theorem zpm(h:Op1 P f R all ⟨some d,.makeSlice t x y,ty,pos,aft,gd⟩ l k s):Op1 P f R all ⟨some d,.makeSlice t x y,ty,pos,aft,gd⟩ l k s:=h
theorem z9u(h:Op1 P f R all ⟨some d,.convert t t' x,ty,pos,aft,gd⟩ l k s):Op1 P f R all ⟨some d,.convert t t' x,ty,pos,aft,gd⟩ l k s:=h
theorem z0v(h:Tr P f R id ops k s0 done s (⟨some d,.load t x,ty,pos,aft,gd⟩::l)):Tr P f R id ops k s0 done s (⟨some d,.load t x,ty,pos,aft,gd⟩::l):=h
theorem z0u(h:Tr P f R id ops k s0 done s (⟨some d,.fieldAddr t x i,ty,pos,aft,gd⟩::l)):Tr P f R id ops k s0 done s (⟨some d,.fieldAddr t x i,ty,pos,aft,gd⟩::l):=h
theorem z1i(h:Tr P f R id ops k s0 done s (⟨some d,.indexAddr t x y,ty,pos,aft,gd⟩::l)):Tr P f R id ops k s0 done s (⟨some d,.indexAddr t x y,ty,pos,aft,gd⟩::l):=h
theorem zq2(h:Tr P f R id ops k s0 done s (⟨some d,.index t x y,ty,pos,aft,gd⟩::l)):Tr P f R id ops k s0 done s (⟨some d,.index t x y,ty,pos,aft,gd⟩::l):=h
theorem z3p(h:Tr P f R id ops k s0 done s (⟨some d,.binOp op t x y t',ty,pos,aft,gd⟩::l)):Tr P f R id ops k s0 done s (⟨some d,.binOp op t x y t',ty,pos,aft,gd⟩::l):=h
theorem z7b(h:Tr P f R id ops k s0 done s (⟨some d,.slice t x a b c,ty,pos,aft,gd⟩::l)):Tr P f R id ops k s0 done s (⟨some d,.slice t x a b c,ty,pos,aft,gd⟩::l):=h
theorem z3v(h:Tr P f R id ops k s0 done s (⟨some d,.call ⟨.builtin b',args,ats⟩,ty,pos,aft,gd⟩::l)):Tr P f R id ops k s0 done s (⟨some d,.call ⟨.builtin b',args,ats⟩,ty,pos,aft,gd⟩::l):=h
theorem z1s(h:Tr P f R id ops k s0 done s (⟨some d,.call ⟨.value fo,args,ats⟩,ty,pos,aft,gd⟩::l)):Tr P f R id ops k s0 done s (⟨some d,.call ⟨.value fo,args,ats⟩,ty,pos,aft,gd⟩::l):=h
theorem z2r(h:Tr P f R id ops k s0 done s (⟨none,.store t x y,ty,pos,aft,gd⟩::l)):Tr P f R id ops k s0 done s (⟨none,.store t x y,ty,pos,aft,gd⟩::l):=h
theorem zmo(h:Tr P f R id ops k s0 done s (⟨some d,.alloc t,ty,pos,aft,gd⟩::l)):Tr P f R id ops k s0 done s (⟨some d,.alloc t,ty,pos,aft,gd⟩::l):=h
theorem zap(h:Tr P f R id ops k s0 done s (⟨some d,.build t lp,ty,pos,aft,gd⟩::l)):Tr P f R id ops k s0 done s (⟨some d,.build t lp,ty,pos,aft,gd⟩::l):=h
theorem z6y(h:Tr P f R id ops k s0 done s (⟨some d,.buildSlice t n lp,ty,pos,aft,gd⟩::l)):Tr P f R id ops k s0 done s (⟨some d,.buildSlice t n lp,ty,pos,aft,gd⟩::l):=h
theorem zk8(h:Tr P f R id ops k s0 done s (⟨some d,.makeSlice t x y,ty,pos,aft,gd⟩::l)):Tr P f R id ops k s0 done s (⟨some d,.makeSlice t x y,ty,pos,aft,gd⟩::l):=h
end
end Go.Ab
namespace Go.Ab
variable{P:Program}{f:FuncId}{R:z4b}{k:List Item}{n:Nat}{tm:List (Nat × PV)}{hp:Hp}{up:Hf}
theorem z7o(id D:Nat){l:List Oper}(h1:∀b:Bool,Run P f R k ⟨n,(D,B b)::tm,hp,up⟩)(h2:(∀b:Bool,Run P f R k ⟨n,(D,B b)::tm,hp,up⟩)→Ops P f R l.toArray l k ⟨n,tm,hp,up⟩) :
 Run P f R (.code (.region id l.toArray false)::k) ⟨n,tm,hp,up⟩:=z00 (h2 h1)
theorem zgy(id D:Nat){ops:List Oper}(h1:∀b:Bool,Run P f R k ⟨n,(D,B b)::tm,hp,up⟩)(h2:(∀b:Bool,Run P f R k ⟨n,(D,B b)::tm,hp,up⟩)→Tr P f R id ops k ⟨n,tm,hp,up⟩ [] ⟨n,tm,hp,up⟩ ops) :
 Run P f R (.code (.region id ops.toArray true)::k) ⟨n,tm,hp,up⟩:=z2o (h2 h1)
theorem zct{D:Nat}{b:Bool}{tm0:List (Nat × PV)}{hp0:Hp}(hm:∀b:Bool,Run P f R k ⟨n,(D,B b)::tm0,hp0,up⟩)(hb:look tm D=some (B b))(h:zsg tm0 tm)(h':znk hp0 hp):Run P f R k ⟨n,tm,hp,up⟩:=by
 refine z0d (hm b) ?_ h'
 have:=zwf h
 simp only[zsg,List.map_cons,hb,List.cons.injEq,true_and]at h⊢
 exact h
theorem z1e{ops:List Oper}{s0 s:St}{done:List Eff}{id:Nat}(h:Tr P f R id ops k s0 done s []):Tr P f R id ops k s0 done s []:=h
theorem z3n{all:Array Oper}{s:St}(h:Ops P f R all [] k s):Ops P f R all [] k s:=h
end Go.Ab
namespace Go.Ab
variable{P:Program}{f:FuncId}{R:z4b}{k:List Item}{all:Array Oper}{o:Oper}{l:List Oper}
variable{n:Nat}{tm:List (Nat × PV)}{hp:Hp}{up:Hf}{d:Nat}{ty:TypeId}{pos:String}{aft:Array Edge}{gd:Option (Nat × Bool)}{op:Op}{p:PV}
theorem zm9{s:St}:∀ {xs ys:List (Operand × PV)},Evs s xs→Evs s ys→Evs s (xs++ys)
 | [],ys,_,h=>h
 | (x,p)::r,ys,h,h'=>⟨h.1,zm9 h.2 h'⟩
theorem zxy{s:St}{xs ys:List Operand}{ps qs:List PV}(h:s.evs xs=some ps)(h':s.evs ys=some qs):EvE s (xs.zip ps++ys.zip qs) :=
 zhy (zm9 (z7d h).1 (z7d h').1)
theorem zjq{s:St}:∀ {xs:List Operand} {ps:List PV},s.evs xs=some ps→xs.length=ps.length
 | [],ps,h=>by simp[St.evs]at h;subst h;rfl
 | x::r,ps,h=>by
  simp only[St.evs]at h
  cases hx:s.ev x with
  | none=>rw[hx]at h;cases h
  | some p =>
   rw[hx]at h
   cases hr:s.evs r with
   | none=>rw[hr]at h;cases h
   | some q=>rw[hr]at h;simp at h;subst h;simp[zjq hr]
theorem zr1{s:St}:∀ {xs ys:List (Operand × PV)},Evs s (xs++ys)→Evs s xs∧Evs s ys
 | [],ys,h=>⟨trivial,h⟩
 | (x,p)::r,ys,h=>by
  have:=zr1 (xs:=r) h.2
  exact⟨⟨h.1,this.1⟩,this.2⟩
theorem zhj{β:Nm→Value}{own:Nat→Prop}{a:Act}{w:World}{s:St}(hr:Rep s β own a w):∀ {xs:List Operand} {ps:List PV},xs.length=ps.length→Evs s (xs.zip ps) →
 ∀(j:Nat) (p:PV) (v:Value),ps[j]? =some p→(xs.map a.eval)[j]? =some v→PR β w own p v
 | [],[],_,_,j,p,v,hp,_=>by simp at hp
 | [],_::_,h,_,_,_,_,_,_=>by simp at h
 | _::_,[],h,_,_,_,_,_,_=>by simp at h
 | x::xs,q::ps,hl,h,j,p,v,hp,hv=>by
  cases j with
  | zero=>simp at hp hv;subst hp;subst hv;exact hr.ev h.1
  | succ j=>exact zhj hr (by simpa using hl) h.2 j p v (by simpa using hp) (by simpa using hv)
theorem y37{fn:Fn}{lf lc:List Operand}{pf pc:List PV}(h1:lf.length=pf.length)(h2:lc.length=pc.length):Val P (.makeFunc fn lf.toArray lc.toArray) ty (lf.zip pf++lc.zip pc) [] (.fn fn pf pc) :=
 fun d pos aft gd n tm hp up hd hx hb=>z1c rfl hd fun β own a w hr=>by
  obtain⟨e1,e2⟩:=zr1 hx
  refine⟨.func fn (lf.map a.eval).toArray (lc.map a.eval).toArray,?_,.fn fn pf pc _ _ (by simp[h1]) (by simp[h2]) (zhj hr h1 e1) (zhj hr h2 e2)⟩
  simp[execOp,Instr.makeFunc]
theorem z4x{fn:Fn}{lf lc:List Operand}{pf pc:List PV}(h1:St.evs ⟨n,tm,hp,up⟩ lf=some pf)(h2:St.evs ⟨n,tm,hp,up⟩ lc=some pc)(hd:d<n)(h:Ops P f R all l k ⟨n,(d,.fn fn pf pc)::tm,hp,up⟩) :
 Op1 P f R all ⟨some d,.makeFunc fn lf.toArray lc.toArray,ty,pos,aft,gd⟩ l k ⟨n,tm,hp,up⟩ :=
 zns (y37 (zjq h1) (zjq h2)) (zxy h1 h2) rfl hd h
theorem zkx{g:FuncId}{fo:Operand}{args:List Operand}{first cap ps:List PV}{ats:Array TypeId}{bs:List (Nm × Blk)}(hsp:z1v P g (first++ps++cap) bs [] p)(hfo:St.ev ⟨n,tm,hp,up⟩ fo=some (.fn (.func g) first cap))(hev:St.evs ⟨n,tm,hp,up⟩ args=some ps)
 (hb:BkE ⟨n,tm,hp,up⟩ bs) (hd:d<n) (h:Ops P f R all l k ⟨n,(d,p)::tm,hp,up⟩) :
 Op1 P f R all ⟨some d,.call ⟨.value fo,args.toArray,ats⟩,ty,pos,aft,gd⟩ l k ⟨n,tm,hp,up⟩ :=
 zdh hfo hev (hsp (push hp up) fun q hq=>z7m (bkE hb) q hq) hd fun r H ⟨h1,h2⟩=>⟨p,hp,up,h1,h2,h⟩
theorem y1b{id:Nat}{ops:List Oper}{s0:St}{done:List Eff}{gr:List (Nat × PV)}{g:FuncId}{fo:Operand}{args:List Operand}{first cap ps:List PV}{ats:Array TypeId}{bs:List (Nm × Blk)}(hsp:z1v P g (first++ps++cap) bs [] p)(hg:GOK ops.toArray gd gr ⟨n,tm,hp,up⟩)
 (hfo:St.ev ⟨n,tm,hp,up⟩ fo=some (.fn (.func g) first cap)) (hev:St.evs ⟨n,tm,hp,up⟩ args=some ps) (hb:BkE ⟨n,tm,hp,up⟩ bs) (hd:d<n)
 (h:Tr P f R id ops k s0 (done++[⟨gr++rd ((fo,.fn (.func g) first cap)::args.zip ps),bs,[],[(d,p)],[]⟩]) ⟨n,(d,p)::tm,hp,up⟩ l) :
 Tr P f R id ops k s0 done ⟨n,tm,hp,up⟩ (⟨some d,.call ⟨.value fo,args.toArray,ats⟩,ty,pos,aft,gd⟩::l):=by
 replace hb:=bkE hb
 obtain⟨hz1,hz2⟩:=z7d hev
 have hz0:Evs ⟨n,tm,hp,up⟩ ((fo,.fn (.func g) first cap)::args.zip ps):=⟨hfo,hz1⟩
 refine zdi (e:=⟨gr++rd ((fo,.fn (.func g) first cap)::args.zip ps),bs,[],[(d,p)],[]⟩) (fun i hi s1 hn hs1=>?_) ⟨fun q hq=>?_,z7m hb,by simp⟩ rfl h
 ·have h1:Evs s1 ((fo,.fn (.func g) first cap)::args.zip ps):=z5n hz0 fun q hq=>hs1.ins q (by simp[hq])
  have hev1:s1.evs args=some ps:=hz2 s1 h1.2
  refine zf8 hi (fun β own a w hr=>hg.wanted (fun q hq=>hs1.ins q (by simp[hq])) rfl hr) h1.1 hev1 ?_ (by rw[hn];exact hd)
  simpa using hsp (push s1.hp s1.up) fun q hq=>hs1.pre q hq
 ·exact zD102
theorem z4g{g:FuncId}{args:List Operand}{ps:List PV}{ats:Array TypeId}{bs:List (Nm × Blk)}(hsp:z1v P g ps bs [] p)(hev:St.evs ⟨n,tm,hp,up⟩ args=some ps)
 (hb:BkE ⟨n,tm,hp,up⟩ bs) (hd:d<n) (h:Ops P f R all l k ⟨n,(d,p)::tm,hp,up⟩) :
 Op1 P f R all ⟨some d,.call ⟨.value (.func g),args.toArray,ats⟩,ty,pos,aft,gd⟩ l k ⟨n,tm,hp,up⟩ :=
 zkx (first:=[]) (cap:=[]) (by simpa using hsp) rfl hev hb hd h
end Go.Ab
