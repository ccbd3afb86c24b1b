/- A part. -/
import Derived.Test.YtmcggompdmngmaaGreatDoorX1
set_option linter.all false
open Go.Proofs.Tryz
namespace Go.Proofs.YtmcggompdmngmaaGreatDoor
open Go.Ab Go.Ax
set_option maxHeartbeats 20000000
set_option maxRecDepth 100000
attribute [local irreducible] Run Ops Op1 z0y Val Tr z0a z0u NF Rel z27 z29
section
variable{K:Type}[DecidableEq K]
def z3j:Nat→List K→List (K × D)
 | _,[]=>[]
 | i,k::ks=>(k,z2i (i:Nat))::z3j (i+1) ks
theorem zac(k:K):∀(ks:List K) (i:Nat),z5t (z3j i ks) k=if k∈ks then some (z2i ((i+z3o k ks:Nat):Int))else none
 | [],i=>by simp[z3j,z5t]
 | x::ks,i=>by
  rw[z3j,z5t,z3o]
  by_cases h:x=k
  ·rw[zAz h,zAz h,zAz (by simp[h])];rfl
  ·rw[zAy h,zAy h,zac k ks (i+1)]
   by_cases h2:k∈ks
   ·rw[zAz h2,zAz (by simp[h2]),show i+1+z3o k ks=i+(z3o k ks+1) by omega]
   ·rw[zAy h2,zAy (by simp[h2,Ne.symm h])]
theorem zn5(k:K):∀(ks:List K) (i:Nat),z3j i (ks++[k])=z3j i ks++[(k,z2i ((i+ks.length:Nat):Int))]
 | [],i=>by simp[z3j]
 | x::ks,i=>by
  rw[List.cons_append,z3j,z3j,zn5 k ks (i+1),List.cons_append,zAk,show i+1+ks.length=i+(ks.length+1) by omega]
theorem zp8{x:K × D}:∀ {ks:List K} {i:Nat},x∈z3j i ks→x.1∈ks
 | [],i,h=>by simp[z3j]at h
 | y::ks,i,h=>by
  rw[z3j,zAc]at h
  rcases h with h|h
  ·rw[h];simp
  ·exact List.mem_cons_of_mem _ (zp8 h)
theorem zcx{k:K}{ks:List K}(h:k∉ks):z9h (z3j 0 ks) k (z2i (ks.length:Nat))=z3j 0 (ks++[k]):=by
 rw[z8h (z3j 0 ks) k _ fun x hx e=>h (by rw[←e];exact zp8 hx),zn5,Nat.zero_add]
theorem z48{k:K}:∀ {l:List K},k∉l→z3o k l=l.length
 | [],_=>rfl
 | x::l,h=>by
  rw[zAc,not_or]at h
  rw[z3o,zAy (Ne.symm h.1),z48 h.2];rfl
end
theorem zqh:zir prog 3 (fun x:Int=>Value.int .i64 x):=(y7p .i64).gen (T3.int rfl)
theorem zqi{a:Int}:∀β w own v,PR β w own (I .i64 a) v→v=Value.int .i64 a:=fun β w own v h=>h.lit
def exR(o:Option Au):PV:=match o with
 | some a=>.tup [.d (auD a),B true]
 | none=>.tup [.d (auD ⟨[],[]⟩),B false]
def edE{K:Type}(es:List (Go.Ax.Edge K)):Prop:=es.length≤2000000∧∀e∈es,0≤e.1∧e.1≤e.2.1∧e.2.1≤1114111
abbrev mpI(ks:List Int):Blk:=.mp ((z3j 0 ks).map fun p=>(Value.int .i64 p.1,p.2))
abbrev icc(x:Int):List D:=[z2i x]
def zwq(k:Bool × Nat):Value:=.agg #[.bool k.1,.int .u64 (k.2:Nat)]
def zf1(k:Int × Int):Value:=.agg #[.int .i64 k.1,.int .i64 k.2]
abbrev mpS(ks:List (Bool × Nat)):Blk:=.mp ((z3j 0 ks).map fun p=>(zwq p.1,p.2))
abbrev mpP(ks:List (Int × Int)):Blk:=.mp ((z3j 0 ks).map fun p=>(zf1 p.1,p.2))
abbrev scc(x:Bool × Nat):List D:=[zdm x.1,y2l (x.2:Nat)]
abbrev pcc(x:Int × Int):List D:=[z2i x.1,z2i x.2]
abbrev scP(x:Bool × Nat):PV:=.d (.agg (scc x))
abbrev pcP(x:Int × Int):PV:=.d (.agg (pcc x))
abbrev sed(e:Go.Ax.Edge (Bool × Nat)):List D:=[z1b e.1,z1b e.2.1,zdm e.2.2.1,y2l (e.2.2.2:Nat)]
abbrev ped(e:Go.Ax.Edge (Int × Int)):List D:=[z1b e.1,z1b e.2.1,z2i e.2.2.1,z2i e.2.2.2]
abbrev boc(b:Bool):List D:=[zdm b]
theorem zhl{K:Type}[DecidableEq K](ks:List K)(k:K):(z7j ks k).length≤ks.length+1:=by rw[z7j];split <;> simp
theorem zdf{K:Type}[DecidableEq K]{ks:List K}{k x:K}(h:x∈z7j ks k):x=k∨x∈ks:=by
 rw[z7j]at h
 split at h
 ·exact .inr h
 ·rw[zAt,zAq]at h;exact h.symm
theorem wu8(x:Int):IntKind.u8.wrap x=x % 256:=by
 unfold IntKind.wrap
 simp[IntKind.bits,IntKind.signed]
theorem y0o(n:Int)(h:0≤n):z0a prog 148 [I .i64 n] (.d (.slice ((z68 n).map by8))):=by
 refine z0q fun H=>?_
 have w1:IntKind.u8.wrap (zr8 .i64 n 24)=n / 16777216 % 256:=by rw[zdt h (by decide),wu8];rfl
 have w2:IntKind.u8.wrap (zr8 .i64 n 16)=n / 65536 % 256:=by rw[zdt h (by decide),wu8];rfl
 have w3:IntKind.u8.wrap (zr8 .i64 n 8)=n / 256 % 256:=by rw[zdt h (by decide),wu8];rfl
 have w4:=wu8 n
 refine z05 func148 (by kernel_rfl) rfl (by simp) ?_
 dsimp only[f148]
 repeat' first|(apply z0t;refine z07 (z99 (by omega)) rfl rfl ?_)|(apply z4q;first|refine z07 (zhi rfl rfl w4) rfl rfl ?_| refine z07 (zhi rfl rfl w3) rfl rfl ?_| refine z07 (zhi rfl rfl w2) rfl rfl ?_| refine z07 (zhi rfl rfl w1) rfl rfl ?_)|refine z04 ?_|fail
 all_goals exact z03 func148 _ z1h ⟨rfl,rfl⟩
def zon(xs:List Int):Blk:=if xs=[]then .gone else .row 3 1 (xs.map icc)
def zlp(j:Nat)(xs:List Int):PV:=if xs=[]then .d (.lit z2n)else .ref (0,5000+j)
def inn:Nat→List (List Int)→Hp
 | _,[]=>[]
 | j,xs::r=>(5000+j,zon xs)::inn (j+1) r
def cel:Nat→List (List Int)→List PV
 | _,[]=>[]
 | j,xs::r=>zlp j xs::cel (j+1) r
theorem z4m:∀(xss:List (List Int)) (j s:Nat),Ab.look (inn j xss) s=if 5000+j≤s then(xss[s-(5000+j)]?).map zon else none
 | [],j,s=>by simp[inn,Ab.look]
 | xs::r,j,s=>by
  rw[inn,Ab.look,z4m r (j+1) s]
  by_cases h:5000+j=s
  ·rw[zAz h,zAz (by omega),←h,Nat.sub_self];rfl
  ·exact zD91
theorem zep(xss:List (List Int))(j:Nat){s:Nat}(h:s<5000):Ab.look (inn j xss) s=none:=by rw[z4m,zAy (by omega)]
theorem zba:∀(xss:List (List Int)) (j:Nat),(cel j xss).length=xss.length
 | [],_=>rfl
 | xs::r,j=>by rw[cel,zAk,zba r,zAk]
theorem z6w:∀(xss:List (List Int)) (j i:Nat),(cel j xss)[i]? =(xss[i]?).map (zlp (j+i))
 | [],j,i=>by simp[cel]
 | xs::r,j,0=>by simp[cel]
 | xs::r,j,i+1=>by
  rw[cel,List.getElem?_cons_succ,List.getElem?_cons_succ,z6w r (j+1) i,show j+1+i=j+(i+1) by omega]
theorem zst(n:Nm)(xs:List Int):(zon xs).says n=false:=by rw[zon];split <;> rfl
theorem zo5(a b:Nat)(xs:List Int):(zon xs).ren a b=zon xs:=by rw[zon];split <;> rfl
theorem zck{d:Nat}(h:d<5000):∀(xss:List (List Int)) (j:Nat),z0i d (inn j xss)=true
 | [],_=>rfl
 | xs::r,j=>by
  rw[inn,z0i,zck h r (j+1),zst]
  have:¬5000+j=d:=by omega
  simp[this]
theorem zdn{d j:Nat}{xs:List Int}(h:d<5000):(zlp j xs).says (0,d)=false:=by
 rw[zlp]
 split
 ·rfl
 ·simp[PV.says];omega
theorem z9o{d:Nat}(h:d<5000):∀(xss:List (List Int)) (j:Nat),PV.saysL (0,d) (cel j xss)=false
 | [],_=>rfl
 | xs::r,j=>by rw[cel,PV.saysL,z9o h r,zdn h];rfl
theorem z7s{n:Nm}{p:PV}:∀ {cs:List PV} {i:Nat},PV.saysL n cs=false→p.says n=false→PV.saysL n (cs.set i p)=false
 | [],i,h,hp=>by simpa using h
 | c::cs,0,h,hp=>by
  exact zD137
 | c::cs,i+1,h,hp=>by
  simp only[PV.saysL,Bool.or_eq_false_iff]at h
  simp only[List.set_cons_succ,PV.saysL,Bool.or_eq_false_iff]
  exact⟨h.1,z7s h.2 hp⟩
section
variable{P:Program}{f:FuncId}{R:z2y}{k:List Go.Item}{n:Nat}{tm tm':List (Nat × PV)}{hp:Hp}{up:Hf}
theorem PV.ren_id{a b:Nat}{p:PV}(ha:p.says (0,a)=false)(hb:p.says (0,b)=false):p.ren a b=p:=by
 cases p with
 | ref q=>simp only[PV.says,beq_eq_false_iff_ne]at ha hb;simp[PV.ren,ha,hb]
 | ptr q o=>simp only[PV.says,beq_eq_false_iff_ne]at ha hb;simp[PV.ren,ha,hb]
 | _=>simp only[PV.ren];rw[zAy];rw[hb];decide
theorem zid{a b:Nat}:∀ {tm:List (Nat × PV)},z2f (0,a) tm=false→z2f (0,b) tm=false→z9a a b tm=tm
 | [],_,_=>rfl
 | (t,p)::r,ha,hb=>by
  simp only[z2f,Bool.or_eq_false_iff]at ha hb
  rw[z9a,PV.ren_id ha.1 hb.1,zid ha.2 hb.2]
theorem zp2(m:Nat){pre T:Hp}(hT:hp.drop m=T)(ht:yah tm' tm)(h1:zzd pre (hp.take m))(h2:((hp.take m).all fun q=>decide (q.1<5000))=true)(hl:∀s,s<5000→Ab.look T s=none)(h:Run P f R k ⟨n,tm',pre++T,up⟩):Run P f R k ⟨n,tm,hp,up⟩:=by
 refine zbz (fun t p h=>(ybc ht).get h) (fun s b hb=>?_) h
 have lapp:∀(A B:Hp),Ab.look (A++B) s=(Ab.look A s).or (Ab.look B s):=fun A B=>by
  exact zD33
 rw[←List.take_append_drop m hp,hT,lapp]
 rw[lapp]at hb
 cases hs:Ab.look pre s with
 | some c =>
  rw[hs]at hb
  simp at hb;subst hb
  rw[(y5q h1).get hs];rfl
 | none =>
  rw[hs]at hb
  have hb':Ab.look T s=some b:=by simpa using hb
  have:Ab.look (hp.take m) s=none:=by
   have hs5:¬s<5000:=fun h=>by rw[hl s h]at hb';cases hb'
   revert h2
   generalize hp.take m=A
   intro h2
   induction A with
   | nil=>rfl
   | cons q r ih =>
    obtain⟨kk,c⟩:=q
    simp only[List.all_cons,zA7,zA3]at h2
    rw[Ab.look,zAy (by omega),ih h2.2]
  rw[this,hb'];rfl
theorem y51{xss:List (List Int)}{i:Nat}{ys:List Int}(hi:i<xss.length)(j:Nat):(cel j xss).set i (zlp (j+i) ys)=cel j (xss.set i ys):=by
 apply List.ext_getElem?
 intro s
 by_cases h:i=s
 ·subst h
  rw[zAp (by rw[zba];exact hi),z6w,zAp hi];rfl
 ·rw[List.getElem?_set_ne h,z6w,z6w,List.getElem?_set_ne h]
theorem y9z{i:Nat}{xss:List (List Int)}{xs:List Int}(hi:xss[i]? =some xs)(hne:xs≠[])(pre:Hp)(hs1:z2f (0,5000+i) tm=false)(hs2:z2f (0,1001) tm=false)
 (hp1:∀s b,Ab.look pre s=some b→s<5000∧s≠1000∧s≠1001∧b.ren (5000+i) 1001=b)
 (h:Run P f R k ⟨n,tm,(1001,.row 3 1 (xs.map icc))::(1000,.rowp 30 ((cel 0 xss).set i (.ref (0,1001))))::(pre++inn 0 (xss.set i [])),up⟩):Run P f R k ⟨n,tm,(1000,.rowp 30 (cel 0 xss))::(pre++inn 0 xss),up⟩:=by
 have hil:=(zA1.1 hi).1
 have lapp:∀(A B:Hp) (s:Nat),Ab.look (A++B) s=(Ab.look A s).or (Ab.look B s):=fun A B s=>by
  exact zD33
 have hq:Ab.look ((1000,.rowp 30 (cel 0 xss))::(pre++inn 0 xss)) (5000+i)=some (.row 3 1 (xs.map icc)):=by
  rw[Ab.look,zAy (by omega),lapp]
  have:Ab.look pre (5000+i)=none:=by
   exact zD105
  rw[this,z4m,zAz (by omega),show 5000+i-(5000+0)=i by omega,hi]
  simp[zon,hne]
 refine y0c (5000+i) 1001 hq (by simp[Blk.says];omega) ?_
 rw[zid hs1 hs2]
 refine zbz (tm':=tm) (fun _ _ h=>h) (fun s b hb=>?_) h
 rw[Ab.look]at hb⊢
 split at hb
 ·rename_i h1;rw[zAz h1];exact hb
 rename_i h1
 rw[zAy h1,Ab.look]
 rw[Ab.look]at hb
 split at hb
 ·rename_i h2
  subst h2
  rw[zAy (by omega),z5g,Ab.look,zAz rfl]
  simp only[Option.map_some,Blk.ren]
  rw[←hb]
  congr 2
  apply List.ext_getElem?
  intro s
  have hrl:∀cs:List PV,(zr9 (5000+i) 1001 cs)[s]? =(cs[s]?).map (PV.ren (5000+i) 1001):=fun cs=>zah _ _ cs s
  rw[hrl]
  by_cases h:i=s
  ·subst h
   rw[zAp (by rw[zba];exact hil),z6w,hi]
   simp[zlp,hne,PV.ren]
  ·rw[List.getElem?_set_ne h,z6w]
   cases hx:xss[s]? with
   | none=>rfl
   | some ys =>
    simp only[Option.map_some]
    congr 1
    exact PV.ren_id (by rw[zlp];split;· rfl
                        ·simp[PV.says];omega) (zdn (by omega))
 ·rename_i h2
  by_cases h3:5000+i=s
  ·rw[zAz h3]
   subst h3
   rw[lapp]at hb
   have:Ab.look pre (5000+i)=none:=by
    exact zD105
   rw[this,z4m,zAz (by omega),show 5000+i-(5000+0)=i by omega,zAp hil]at hb
   exact hb
  ·rw[zAy h3,z5g,Ab.look,zAy h2,lapp]
   rw[lapp]at hb
   cases hh:Ab.look pre s with
   | some c =>
    rw[hh]at hb
    simp at hb;subst hb
    simp[(hp1 _ _ hh).2.2.2]
   | none =>
    rw[hh]at hb
    have hb':Ab.look (inn 0 (xss.set i [])) s=some b:=by simpa using hb
    rw[z4m]at hb'
    simp only[Option.none_or]
    rw[z4m]
    split at hb'
    ·rename_i h5
     rw[zAz h5]
     rw[List.getElem?_set_ne (by omega)]at hb'
     exact zD94
    ·cases hb'
theorem zs4(a:Nat){i:Nat}{xss:List (List Int)}{ys:List Int}(hi:i<xss.length)(hne:ys≠[])(ha:a<5000)(pre:Hp)(hs1:z2f (0,5000+i) tm=false)(hs2:z2f (0,a) tm=false)(ha0:a≠1000)
 (hp1:∀s b,Ab.look pre s=some b→s<5000∧s≠1000∧s≠a∧b.ren a (5000+i)=b)
 (h:Run P f R k ⟨n,tm,(1000,.rowp 30 (cel 0 (xss.set i ys)))::(pre++inn 0 (xss.set i ys)),up⟩):Run P f R k ⟨n,tm,(a,.row 3 1 (ys.map icc))::(1000,.rowp 30 ((cel 0 xss).set i (.ref (0,a))))::(pre++inn 0 (xss.set i [])),up⟩:=by
 have lapp:∀(A B:Hp) (s:Nat),Ab.look (A++B) s=(Ab.look A s).or (Ab.look B s):=fun A B s=>by
  exact zD33
 refine y0c a (5000+i) (q:=.row 3 1 (ys.map icc)) (by simp[Ab.look]) (by simp[Blk.says];omega) ?_
 rw[zid hs2 hs1]
 refine zbz (tm':=tm) (fun _ _ h=>h) (fun s b hb=>?_) h
 rw[Ab.look]at hb
 split at hb
 ·rename_i h2
  subst h2
  rw[Ab.look,zAy (by omega),Ab.look,zAy ha0,z5g,Ab.look,zAy ha0,Ab.look,zAz rfl]
  simp only[Option.map_some,Blk.ren]
  rw[←hb,←y51 hi]
  congr 2
  apply List.ext_getElem?
  intro s
  have hrl:∀cs:List PV,(zr9 a (5000+i) cs)[s]? =(cs[s]?).map (PV.ren a (5000+i)):=fun cs=>zah _ _ cs s
  rw[hrl]
  by_cases h:i=s
  ·subst h
   rw[zAp (by rw[zba];exact hi),zAp (by rw[zba];exact hi)]
   simp[zlp,hne,PV.ren]
  ·rw[List.getElem?_set_ne h,List.getElem?_set_ne h,z6w]
   cases hx:xss[s]? with
   | none=>rfl
   | some ys =>
    simp only[Option.map_some]
    congr 1
    exact PV.ren_id (zdn ha) (by rw[zlp];split;· rfl
                                 ·simp[PV.says];omega)
 ·rename_i h2
  by_cases h3:5000+i=s
  ·subst h3
   rw[Ab.look,zAz rfl]
   rw[lapp]at hb
   have:Ab.look pre (5000+i)=none:=by
    exact zD105
   rw[this,z4m,zAz (by omega),show 5000+i-(5000+0)=i by omega,zAp hi]at hb
   simpa[zon,hne]using hb
  ·rw[Ab.look,zAy h3]
   rw[lapp]at hb
   have hsa:s≠a:=by
    rintro rfl
    cases hh:Ab.look pre s with
    | some c=>exact(hp1 _ _ hh).2.2.1 rfl
    | none=>rw[hh,zep _ _ ha]at hb;cases hb
   rw[Ab.look,zAy (Ne.symm hsa),z5g,Ab.look,zAy (Ne.symm hsa),Ab.look,zAy h2,lapp]
   cases hh:Ab.look pre s with
   | some c =>
    rw[hh]at hb
    simp at hb;subst hb
    simp[(hp1 _ _ hh).2.2.2]
   | none =>
    rw[hh]at hb
    have hb':Ab.look (inn 0 (xss.set i ys)) s=some b:=by simpa using hb
    rw[z4m]at hb'
    simp only[Option.none_or]
    rw[z4m]
    split at hb'
    ·rename_i h5
     rw[zAz h5]
     rw[List.getElem?_set_ne (by omega)]at hb'⊢
     exact zD94
    ·cases hb'
def y1a(xs:List Int):D:=if xs=[]then .lit z2n else .slice (xs.map icc)
def zpy(m:Nat):Nat→List (List Int)→List PV
 | _,[]=>[]
 | j,xs::r=>(if j<m then .d (y1a xs)else zlp j xs)::zpy m (j+1) r
def zr5(m:Nat):Nat→List (List Int)→Hp
 | _,[]=>[]
 | j,xs::r=>(5000+j,if j<m then .gone else zon xs)::zr5 m (j+1) r
theorem z6t(m:Nat):∀(xss:List (List Int)) (j i:Nat),(zpy m j xss)[i]? =(xss[i]?).map fun xs=>if j+i<m then .d (y1a xs)else zlp (j+i) xs
 | [],j,i=>by simp[zpy]
 | xs::r,j,0=>by simp[zpy]
 | xs::r,j,i+1=>by
  rw[zpy,List.getElem?_cons_succ,List.getElem?_cons_succ,z6t m r (j+1) i,show j+1+i=j+(i+1) by omega]
theorem z6d(m:Nat):∀(xss:List (List Int)) (j s:Nat),Ab.look (zr5 m j xss) s=if 5000+j≤s then(xss[s-(5000+j)]?).map fun xs=>if s-5000<m then .gone else zon xs else none
 | [],j,s=>by simp[zr5,Ab.look]
 | xs::r,j,s=>by
  rw[zr5,Ab.look,z6d m r (j+1) s]
  by_cases h:5000+j=s
  ·subst h;simp
  ·exact zD91
theorem zoz{m:Nm}{x:D}:∀ {tm:List (Nat × PV)},z2f m tm=false→zja m x tm=tm
 | [],_=>rfl
 | (t,p)::r,h=>by
  simp only[z2f,Bool.or_eq_false_iff]at h
  rw[zja,zoz h.2]
  congr 2
  cases p with
  | ref q=>have:=h.1;simp only[PV.says,beq_eq_false_iff_ne]at this;simp[PV.frz,this]
  | _=>rfl
theorem y7k(m:Nat){xss:List (List Int)}(hm:m<xss.length)(pre:Hp)(hs1:z2f (0,5000+m) tm=false)
 (hp1:∀s b,Ab.look pre s=some b→s<5000∧s≠1000∧∀x,b.frz (0,5000+m) x=b)
 (h:Run P f R k ⟨n,tm,(1000,.rowp 30 (zpy (m+1) 0 xss))::(pre++zr5 (m+1) 0 xss),up⟩):Run P f R k ⟨n,tm,(1000,.rowp 30 (zpy m 0 xss))::(pre++zr5 m 0 xss),up⟩:=by
 have lapp:∀(A B:Hp) (s:Nat),Ab.look (A++B) s=(Ab.look A s).or (Ab.look B s):=fun A B s=>by
  exact zD33
 obtain⟨xs,hi⟩:∃xs,xss[m]? =some xs:=⟨_,zA0 hm⟩
 have hpn:Ab.look pre (5000+m)=none:=by
  cases hh:Ab.look pre (5000+m)with
  | none=>rfl
  | some c=>have:=(hp1 _ _ hh).1;omega
 by_cases hne:xs=[]
 ·subst hne
  have e1:zpy (m+1) 0 xss=zpy m 0 xss:=by
   apply List.ext_getElem?
   intro s
   rw[z6t,z6t]
   by_cases hs:s=m
   ·subst hs
    rw[hi]
    simp[y1a,zlp]
   ·cases hx:xss[s]? with
    | none=>rfl
    | some ys =>
     simp only[Option.map_some,Nat.zero_add]
     congr 1
     by_cases h2:s<m
     ·rw[zAz (by omega),zAz h2]
     ·rw[zAy (by omega),zAy h2]
  rw[e1]at h
  refine zbz (tm':=tm) (fun _ _ h=>h) (fun s b hb=>?_) h
  rw[Ab.look]at hb⊢
  split at hb
  ·rename_i h1;rw[zAz h1];exact hb
  ·rename_i h1
   rw[zAy h1,lapp]
   rw[lapp]at hb
   cases hh:Ab.look pre s with
   | some c=>rw[hh]at hb;exact hb
   | none =>
    rw[hh]at hb
    simp only[Option.none_or]at hb⊢
    rw[z6d]at hb⊢
    split at hb
    ·rename_i h5
     rw[zAz h5]
     by_cases hs:s-(5000+0)=m
     ·rw[hs,hi]at hb⊢
      simp only[Option.map_some,Nat.lt_succ_self,if_true,Nat.lt_irrefl,if_false]at hb⊢
      rw[←hb];rfl
     ·cases hx:xss[s-(5000+0)]? with
      | none=>rw[hx]at hb;cases hb
      | some ys =>
       rw[hx]at hb
       simp only[Option.map_some]at hb⊢
       rw[←hb]
       by_cases h2:s-5000<m
       ·rw[zAz h2,zAz (show s-5000<m+1 by omega)]
       ·rw[zAy h2,zAy (show ¬s-5000<m+1 by omega)]
    ·cases hb
 ·have hq:Ab.look ((1000,.rowp 30 (zpy m 0 xss))::(pre++zr5 m 0 xss)) (5000+m)=some (.row 3 1 (xs.map icc)):=by
   rw[Ab.look,zAy (by omega),lapp,hpn,z6d,zAz (by omega),show 5000+m-(5000+0)=m by omega,hi]
   simp only[Option.map_some,Option.none_or]
   rw[zAy (by omega),zon,zAy hne]
  refine z0o (5000+m) hq ?_
  rw[zoz hs1]
  refine zbz (tm':=tm) (fun _ _ h=>h) (fun s b hb=>?_) h
  rw[Ab.look]at hb⊢
  split at hb
  ·rename_i h2
   subst h2
   rw[zAy (by omega),z8f,Ab.look,zAz rfl]
   simp only[Option.map_some,Blk.frz]
   rw[←hb]
   congr 2
   apply List.ext_getElem?
   intro s
   rw[zcf,z6t,z6t]
   cases hx:xss[s]? with
   | none=>rfl
   | some ys =>
    simp only[Option.map_some,Nat.zero_add]
    congr 1
    by_cases hs:s=m
    ·subst hs
     rw[hi]at hx;cases hx
     rw[zAy (by omega),zAz (by omega),zlp,zAy hne,y1a,zAy hne]
     simp[PV.frz]
    ·by_cases h2:s<m
     ·rw[zAz h2,zAz (show s<m+1 by omega)];rfl
     ·rw[zAy h2,zAy (show ¬s<m+1 by omega),zlp]
      split
      ·rfl
      ·simp[PV.frz];omega
  ·rename_i h2
   rw[lapp]at hb
   by_cases h3:5000+m=s
   ·rw[zAz h3]
    subst h3
    rw[hpn,z6d,zAz (by omega),show 5000+m-(5000+0)=m by omega,hi]at hb
    simpa using hb
   ·rw[zAy h3,z8f,Ab.look,zAy h2,lapp]
    cases hh:Ab.look pre s with
    | some c =>
     rw[hh]at hb
     simp at hb;subst hb
     simp[(hp1 _ _ hh).2.2]
    | none =>
     rw[hh]at hb
     have hb':Ab.look (zr5 (m+1) 0 xss) s=some b:=by simpa using hb
     rw[z6d]at hb'
     simp only[Option.none_or]
     rw[z6d]
     split at hb'
     ·rename_i h5
      rw[zAz h5]
      cases hx:xss[s-(5000+0)]? with
      | none=>rw[hx]at hb';cases hb'
      | some ys =>
       rw[hx]at hb'
       simp only[Option.map_some]at hb'⊢
       rw[←hb']
       by_cases h2:s-5000<m
       ·rw[zAz h2,zAz (show s-5000<m+1 by omega)];rfl
       ·rw[zAy h2,zAy (show ¬s-5000<m+1 by omega)]
        rw[zon];split <;> rfl
     ·cases hb'
theorem zxu{xss:List (List Int)}(pre:Hp)(hs1:∀m,z2f (0,5000+m) tm=false)(hp1:∀m s b,Ab.look pre s=some b→s<5000∧s≠1000∧∀x,b.frz (0,5000+m) x=b)
 (h:Run P f R k ⟨n,tm,(1000,.row 30 1 (xss.map fun xs=>[.slice (xs.map icc)]))::pre,up⟩):Run P f R k ⟨n,tm,(1000,.rowp 30 (cel 0 xss))::(pre++inn 0 xss),up⟩:=by
 have lapp:∀(A B:Hp) (s:Nat),Ab.look (A++B) s=(Ab.look A s).or (Ab.look B s):=fun A B s=>by
  exact zD33
 have key:∀d m,m+d=xss.length→Run P f R k ⟨n,tm,(1000,.rowp 30 (zpy m 0 xss))::(pre++zr5 m 0 xss),up⟩:=fun d=>by
  induction d with
  | zero =>
   intro m hm
   have e1:zpy m 0 xss=(xss.map y1a).map .d:=by
    apply List.ext_getElem?
    intro s
    rw[z6t,List.map_map,zAd]
    cases hx:xss[s]? with
    | none=>rfl
    | some ys =>
     have:=(zA1.1 hx).1
     simp only[Option.map_some]
     rw[zAz (by omega)];rfl
   rw[e1]
   refine y39 (e:=30) 1000 (xs:=xss.map y1a) (xs':=xss.map fun xs=>.slice (xs.map icc)) (fun i z hz=>?_) (by simp) (by simp[Ab.look]) ?_
   ·rw[zAd]at hz⊢
    cases hx:xss[i]? with
    | none=>rw[hx]at hz;cases hz
    | some ys =>
     rw[hx]at hz;simp at hz;subst hz
     by_cases hy:ys=[]
     ·subst hy;right;exact⟨by simp[y1a],rfl⟩
     ·left;simp[y1a,hy]
   refine zbz (tm':=tm) (fun _ _ h=>h) (fun s b hb=>?_) h
   rw[Ab.look]at hb⊢
   split at hb
   ·rename_i h1;rw[zAz h1,←hb,List.map_map];rfl
   ·rename_i h1
    rw[zAy h1,Ab.look,zAy h1,lapp,hb];rfl
  | succ d ih =>
   intro m hm
   exact y7k m (by omega) pre (hs1 m) (hp1 m) (ih (m+1) (by omega))
 have e0:zpy 0 0 xss=cel 0 xss:=by
  apply List.ext_getElem?
  intro s
  rw[z6t,z6w]
  cases hx:xss[s]? with
  | none=>rfl
  | some ys=>simp
 have e1:zr5 0 0 xss=inn 0 xss:=by
  have:∀(l:List (List Int)) (j:Nat),zr5 0 j l=inn j l:=fun l=>by
   induction l with
   | nil=>intro j;rfl
   | cons x r ih=>intro j;rw[zr5,inn,ih];simp
  exact this xss 0
 have:=key xss.length 0 (by omega)
 rwa [e0,e1]at this
theorem y5u{hp':Hp}(hh:∀s b,Ab.look hp' s=some b→b=.gone∨Ab.look hp s=some b)(h:Run P f R k ⟨n,tm,hp',up⟩):Run P f R k ⟨n,tm,hp,up⟩:=by
 refine Run.le (s:=⟨n,tm,hp',up⟩) (fun β own a w hr=>⟨β,rfl,hr.size,hr.defers,hr.tm,?_⟩) h
 have key:∀m b,z0d (push hp' up) m=some b→b=.gone∨z0d (push hp up) m=some b:=by
  rintro⟨k,s⟩ b hq
  cases k with
  | zero=>exact hh s b hq
  | succ k=>exact .inr hq
 refine⟨fun m b hb=>?_,fun m1 m2 b1 b2 h1 h2 l1 l2=>?_,hr.heap.lt⟩
 ·rcases key m b hb with rfl|h1
  ·exact .gone _
  ·exact hr.heap.blk m b h1
 ·rcases key m1 b1 h1 with rfl|g1
  ·cases l1
  rcases key m2 b2 h2 with rfl|g2
  ·cases l2
  exact hr.heap.inj m1 m2 b1 b2 g1 g2 l1 l2
theorem zad(A B:Hp)(s:Nat):Ab.look (A++B) s=(Ab.look A s).or (Ab.look B s):=by
 exact zD33
theorem y8n{b:Blk}{pre T:Hp}(hn:Ab.look pre 1000=none)(h:Run P f R k ⟨n,tm,(1000,b)::(pre++T),up⟩):Run P f R k ⟨n,tm,pre++(1000,b)::T,up⟩:=by
 refine zbz (tm':=tm) (fun _ _ h=>h) (fun s c hc=>?_) h
 rw[zad,Ab.look]
 rw[Ab.look]at hc
 split at hc
 ·rename_i e;subst e;rw[hn,zAz rfl];exact hc
 ·rename_i e;rw[zAy e];rw[zad]at hc;exact hc
theorem yde{b:Blk}{pre T:Hp}(hn:Ab.look pre 1000=none)(h:Run P f R k ⟨n,tm,pre++(1000,b)::T,up⟩):Run P f R k ⟨n,tm,(1000,b)::(pre++T),up⟩:=by
 refine zbz (tm':=tm) (fun _ _ h=>h) (fun s c hc=>?_) h
 rw[zad,Ab.look]at hc
 rw[Ab.look]
 by_cases e:1000=s
 ·subst e;rw[zAz rfl];rw[hn,zAz rfl]at hc;exact hc
 ·rw[zAy e,zad];rw[zAy e]at hc;exact hc
theorem zbf{d:Nat}(m:Nat)(hT:z0i d (hp.drop m)=true)(h:(z0i d (hp.take m)&&z0p d tm)=true):(z0i d hp&&z0p d tm)=true:=by
 have:z0i d hp=(z0i d (hp.take m)&&z0i d (hp.drop m)):=by
  have key:∀A B:Hp,z0i d (A++B)=(z0i d A&&z0i d B):=fun A B=>by
   induction A with
   | nil=>simp[z0i]
   | cons q r ih=>obtain⟨kk,c⟩:=q;simp only[List.cons_append,z0i,ih,Bool.and_assoc]
  rw[←key,List.take_append_drop]
 rw[this,hT,Bool.and_true];exact h
theorem y1g{d:Nat}{cs:List PV}{xss:List (List Int)}{j:Nat}(h:d<5000)(h2:d≠1000)(h3:PV.saysL (0,d) cs=false):z0i d ((1000,.rowp 30 cs)::inn j xss)=true:=by
 rw[z0i,zck h]
 simp[Blk.says,h3,Ne.symm h2]
theorem zv5{id:Nat}{ops:List Oper}{s0 s:St}{done:List Eff}{l:List Oper}{t:TypeId}{x y:Operand}{ty:TypeId}{pos:String}{aft:Array Edge}{gd:Option (Nat × Bool)}{fs:List Nat}(hmix:P.follows .mixedOrders=true)
 (hc:(decide (done.length≤ops.length)&&((ops.take done.length).length == done.length&&zb1 (zal [] (ops.take done.length)) [] done&&z74 (ops.take done.length) 0)&&z74 ops 0&&ze5 (zal [] ops) done.length ops.length)=true)
 (hf:done.flatMap (·.free)=fs) (hf2:(fs.all fun d=>z0i d s0.hp&&z0p d s0.tm)=true)
 (h:Ops P f R ops.toArray (⟨none,.store t x y,ty,pos,aft,gd⟩::l) k s):Tr P f R id ops k s0 done s (⟨none,.store t x y,ty,pos,aft,gd⟩::l):=zc1 hmix (zta hc hf hf2) h
theorem y6g(m:Nat):∀j,cel j (List.replicate m [])=(List.replicate m (D.lit z2n)).map .d:=by
 induction m with
 | zero=>intro j;rfl
 | succ m ih=>intro j;rw[List.replicate_succ,cel,ih];rfl
theorem y6i{m j s:Nat}{b:Blk}(h:Ab.look (inn j (List.replicate m [])) s=some b):b=.gone:=by
 rw[z4m]at h
 split at h
 ·rw[List.getElem?_replicate]at h
  split at h
  ·simpa[zon]using h.symm
  ·cases h
 ·cases h
end
abbrev BX(F:List Bool)(A:List (List Arc)):Blk:=.box [.d (zio F),.d (.slice (A.map z7m))]
abbrev TMO(F:List Bool)(A:List (List Arc))(i:Nat):List (Nat × PV):=[(1,.ptr (0,1) 0),(3,.ref (0,1000)),(20,.d (.slice (A.map z7m))),(21,I .i64 A.length),(22,I .i64 (i:Nat))]
abbrev TMI(F:List Bool)(A:List (List Arc))(l:List Arc)(i j:Nat):List (Nat × PV):=[(1,.ptr (0,1) 0),(3,.ref (0,1000)),(20,.d (.slice (A.map z7m))),(21,I .i64 A.length),(22,I .i64 (i:Nat)),(4,I .i64 (i:Nat)),(27,.d (zde l)),(28,I .i64 l.length),(29,I .i64 (j:Nat))]
theorem zu6(F:List Bool)(A:List (List Arc))(n:Nm):(BX F A).says n=false:=by simp[Blk.says,PV.saysL,PV.says]
theorem zvn(F:List Bool)(A:List (List Arc))(a b:Nat):(BX F A).ren a b=BX F A:=by simp[Blk.ren,zr9,PV.ren,PV.says]
theorem y0d{l:List Arc}{A:List (List Arc)}{i:Nat}(h:A[i]? =some l):((A.take i).map List.length).sum+l.length=((A.take (i+1)).map List.length).sum:=by
 rw[List.take_add_one,h];simp
theorem y1l(A:List (List Arc))(i:Nat):((A.take i).map List.length).sum≤(A.map List.length).sum:=by
 conv=>rhs;rw[←List.take_append_drop i A]
 rw[List.map_append,List.sum_append];omega
theorem y3v(F:List Bool)(A:List (List Arc))(hAF:A.length=F.length)(hr:∀l∈A,l.length≤2000000∧∀x∈l,0≤x.2.2∧x.2.2<F.length)(hlen:F.length≤4000000)(htot:(A.map List.length).sum≤100000000000):z0a prog 147 [.d (auD ⟨F,A⟩)] (.d (zio (z3m F A))):=by
 refine z0q fun H=>?_
 refine z05 func147 (by kernel_rfl) rfl (by simp) ?_
 dsimp only[f147]
 repeat' first|(apply z0r;refine y4m (xs:=(List.replicate F.length (D.lit z2n)).map fun x=>[x]) rfl rfl (by omega) (by simp only[zA4];omega) rfl rfl rfl (by decide) (by simp) ?_)|(apply z1n;refine z09 z3s ?_)|refine z04 ?_|fail
 all_goals try omega
 refine z1d 18 1000 ?_
 refine y8g 1000 (xs:=List.replicate F.length (D.lit z2n)) rfl ?_
 rw[←y6g F.length 0]
 refine z00 (tm':=TMO F A 0) (hp':=[(1,BX F A),(1000,.rowp 30 (cel 0 (List.replicate F.length [])))]) ?_ rfl rfl
 refine y5u (hp':=[(1,BX F A)]++(1000,.rowp 30 (cel 0 (List.replicate F.length [])))::inn 0 (List.replicate F.length [])) (fun s b hb=>?_) ?_
 ·rw[zad]at hb
  rw[Ab.look]
  by_cases h1:1=s
  ·subst h1;right;rw[zAz rfl];simpa[Ab.look]using hb
  ·rw[zAy h1]
   simp only[Ab.look,zAy h1,Option.none_or]at hb
   rw[Ab.look]
   by_cases h2:1000=s
   ·rw[zAz h2]at hb⊢;exact .inr hb
   ·rw[zAy h2]at hb;exact .inl (y6i hb)
 refine z0f ?_
 refine z0s (fun q:Nat × List (List Int)=>⟨105,TMO F A q.1,[(1,BX F A)]++(1000,.rowp 30 (cel 0 q.2))::inn 0 q.2,H⟩) (fun q=>q.1≤A.length∧q.2.length=F.length∧(∀xs∈q.2,xs.length≤((A.take q.1).map List.length).sum)∧y30 q.1 (A.drop q.1) q.2=y30 0 A (List.replicate F.length [])) (fun q=>A.length-q.1) ?_ (0,List.replicate F.length []) ⟨zAf _,by simp,fun xs hx=>by rw[List.eq_of_mem_replicate hx];simp,rfl⟩
 rintro⟨i,xss0⟩ ⟨i1,i2,i3,i4⟩ ih
 simp only at i1 i2 i3 i4 ih⊢
 by_cases hlt:i<A.length
 ·obtain⟨l,hl⟩:∃l,A[i]? =some l:=⟨_,zA0 hlt⟩
  obtain⟨l1,l2⟩:=hr l (zA2 hl)
  have ht1:=y0d hl
  have ht2:=y1l A (i+1)
  rw[drop_cons hl,y30]at i4
  repeat' first|(apply z01;refine z07 (z11 (ys:=A.map z7m) rfl (idx hl)) rfl rfl ?_)|refine z04 ?_|refine fk (fun _=>?_) fun _=>?_
  all_goals try omega
  refine z0f ?_
  refine zp2 (tm':=TMI F A l i 0) (pre:=[(1,BX F A),(1000,.rowp 30 (cel 0 xss0))]) (T:=inn 0 xss0) 2 rfl rfl rfl rfl (fun s h=>zep _ _ h) ?_
  refine z0s (fun q:Nat × List (List Int)=>⟨105,TMI F A l i q.1,[(1,BX F A)]++(1000,.rowp 30 (cel 0 q.2))::inn 0 q.2,H⟩) (fun q=>q.1≤l.length∧q.2.length=F.length∧(∀xs∈q.2,xs.length≤((A.take i).map List.length).sum+q.1)∧(l.drop q.1).foldl (zwn i) q.2=l.foldl (zwn i) xss0) (fun q=>l.length-q.1) ?_ (0,xss0) ⟨zAf _,i2,i3,rfl⟩
  rintro⟨j,xss⟩ ⟨j1,j2,j3,j4⟩ ihj
  simp only at j1 j2 j3 j4 ihj⊢
  by_cases hj:j<l.length
  ·obtain⟨x,hx⟩:∃x,l[j]? =some x:=⟨_,zA0 hj⟩
   obtain⟨x1,x2⟩:=l2 x (zA2 hx)
   have hil:x.2.2.toNat<xss.length:=by omega
   obtain⟨xs,hxs⟩:∃xs,xss[x.2.2.toNat]? =some xs:=⟨_,zA0 hil⟩
   have hxl:=j3 xs (zA2 hxs)
   rw[drop_cons hx,List.foldl_cons,zwn,List.getD,hxs,Option.getD_some]at j4
   have ihj':=ihj (j+1,xss.set x.2.2.toNat (xs++[((i:Nat):Int)])) ⟨by simp only;omega,by simp[j2],fun ys hy=>by
    rcases List.mem_or_eq_of_mem_set hy with h|h
    ·have:=j3 ys h;simp only;omega
    ·rw[h];simp only[zAa,zAn];omega,j4⟩ (by simp only;omega)
   have hcell:(cel 0 xss)[x.2.2.toNat]? =some (zlp (0+x.2.2.toNat) xs):=by rw[z6w,hxs];rfl
   have hcl:(cel 0 xss).length=xss.length:=zba _ _
   by_cases hne:xs=[]
   ·subst hne
    have hcell':(cel 0 xss)[x.2.2.toNat]? =some (.d (.lit z2n)):=by rw[hcell];rfl
    have hT7:z0i 7 ((1000,.rowp 30 (cel 0 xss))::inn 0 xss)=true:=y1g (by decide) (by decide) (z9o (by decide) _ _)
    have hT43:z0i 43 ((1000,.rowp 30 (cel 0 xss))::inn 0 xss)=true:=y1g (by decide) (by decide) (z9o (by decide) _ _)
    have hset:xss.set x.2.2.toNat []=xss:=by
     apply List.ext_getElem?
     intro s
     by_cases h:x.2.2.toNat=s
     ·subst h;rw[zAp hil,hxs]
     ·rw[List.getElem?_set_ne h]
    repeat' first|(apply zle;refine zv5 (fs:=[43]) mix (by kernel_rfl) rfl (by simp only[List.all_cons,List.all_nil,Bool.and_true];exact zbf 3 hT43 rfl) ?_)|(apply z0b;refine z0c (znk hcell' rfl rfl) rfl rfl ?_)|(apply z01;refine z07 (z11 (ys:=l.map z3g) rfl (idx hx)) rfl rfl ?_)|(apply z02;refine z0c (zk6 rfl (by omega) (by omega) rfl) rfl rfl ?_)|(apply z4i;refine zrp (r:=[((i:Nat):Int)]) (g:=icc) (by first|exact rfl|exact⟨_,rfl,rfl,rfl⟩) rfl rfl rfl (fun _=>rfl) rfl (zbf 3 hT43 rfl) (by decide) (by simp) ?_)|(apply z0x;refine zjy rfl rfl rfl rfl rfl (by omega) rfl ?_)|(apply z1s;refine z09 (zdi rfl (zbf 1 hT7 rfl) (by decide)) ?_)|refine z04 ?_|refine fk (fun _=>?_) fun _=>?_
    all_goals try omega
    refine zp2 (tm':=TMI F A l i (j+1)) (pre:=[(43,.row 3 1 (([]++[((i:Nat):Int)]).map icc)),(1000,.rowp 30 ((cel 0 xss).set x.2.2.toNat (.ref (0,43)))),(1,BX F A)]) (T:=inn 0 xss) 6 rfl rfl rfl rfl (fun s h=>zep _ _ h) ?_
    rw[←hset]
    rw[show((cel 0 (xss.set x.2.2.toNat [])).set x.2.2.toNat (.ref (0,43)))=((cel 0 xss).set x.2.2.toNat (.ref (0,43))) by rw[hset]]
    refine zs4 43 (xss:=xss) (i:=x.2.2.toNat) (ys:=[]++[((i:Nat):Int)]) hil (by simp) (by decide) [(1,BX F A)] (by simp[z2f,PV.says];omega) rfl (by decide) (fun s b hb=>?_) ?_
    ·exact zD44
    exact yde rfl ihj'
   ·have hcell1:((cel 0 xss).set x.2.2.toNat (.ref (0,1001)))[x.2.2.toNat]? =some (.ref (0,1001)):=zAp (by omega)
    have hcl1:((cel 0 xss).set x.2.2.toNat (.ref (0,1001))).length=xss.length:=by rw[List.length_set,hcl]
    have hss:((cel 0 xss).set x.2.2.toNat (.ref (0,1001))).set x.2.2.toNat (.ref (0,43))=(cel 0 xss).set x.2.2.toNat (.ref (0,43)):=by rw[List.set_set]
    refine y8n rfl ?_
    refine y9z hxs hne [(1,BX F A)] (by simp[z2f,PV.says];omega) rfl (fun s b hb=>?_) ?_
    ·exact zD44
    have hT7:z0i 7 ((1000,.rowp 30 ((cel 0 xss).set x.2.2.toNat (.ref (0,1001))))::((1,BX F A)::inn 0 (xss.set x.2.2.toNat [])))=true:=by
     rw[z0i,z0i,zck (by decide),zu6]
     simp[Blk.says,z7s (n:=(0,7)) (p:=.ref (0,1001)) (i:=x.2.2.toNat) (z9o (d:=7) (by decide) xss 0) rfl]
    have hT43:z0i 43 ((1000,.rowp 30 ((cel 0 xss).set x.2.2.toNat (.ref (0,1001))))::((1,BX F A)::inn 0 (xss.set x.2.2.toNat [])))=true:=by
     rw[z0i,z0i,zck (by decide),zu6]
     simp[Blk.says,z7s (n:=(0,43)) (p:=.ref (0,1001)) (i:=x.2.2.toNat) (z9o (d:=43) (by decide) xss 0) rfl]
    generalize (cel 0 xss).set x.2.2.toNat (.ref (0,1001))=cs1 at *
    repeat' first|(apply zle;refine zv5 (fs:=[43]) mix (by kernel_rfl) rfl (by simp only[List.all_cons,List.all_nil,Bool.and_true];exact zbf 3 hT43 rfl) ?_)|(apply z0b;refine z0c (znk hcell1 rfl rfl) rfl rfl ?_)|(apply z01;refine z07 (z11 (ys:=l.map z3g) rfl (idx hx)) rfl rfl ?_)|(apply z02;refine z0c (zk6 rfl (by omega) (by omega) rfl) rfl rfl ?_)|(apply z4i;refine z4y (g:=icc) (by first|exact rfl|exact⟨_,rfl,rfl,rfl⟩) rfl rfl ((i:Nat):Int) rfl rfl rfl rfl rfl rfl (zbf 3 hT43 rfl) (by decide) (by omega) ?_)|(apply z0x;refine zjy rfl rfl rfl rfl rfl (by omega) rfl ?_)|(apply z1s;refine z09 (zdi rfl (zbf 1 hT7 rfl) (by decide)) ?_)|refine z04 ?_|refine fk (fun _=>?_) fun _=>?_
    all_goals try omega
    rw[hss]
    refine zp2 (tm':=TMI F A l i (j+1)) (pre:=[(43,.row 3 1 ((xs++[((i:Nat):Int)]).map icc)),(1000,.rowp 30 ((cel 0 xss).set x.2.2.toNat (.ref (0,43)))),(1,BX F A)]) (T:=inn 0 (xss.set x.2.2.toNat [])) 8 rfl rfl rfl rfl (fun s h=>zep _ _ h) ?_
    refine zs4 43 (xss:=xss) (i:=x.2.2.toNat) (ys:=xs++[((i:Nat):Int)]) hil (by simp) (by decide) [(1,BX F A)] (by simp[z2f,PV.says];omega) rfl (by decide) (fun s b hb=>?_) ?_
    ·exact zD44
    exact yde rfl ihj'
  ·obtain rfl:j=l.length:=by omega
   rw[zAs,List.foldl_nil]at j4
   have ih':=ih (i+1,xss) ⟨by simp only;omega,j2,fun xs hx=>by have:=j3 xs hx;simp only;omega,by rw[j4];exact i4⟩ (by simp only;omega)
   repeat' first|refine z04 ?_|refine fk (fun _=>?_) fun _=>?_
   all_goals try omega
   refine zp2 (tm':=TMO F A (i+1)) (pre:=[(1,BX F A),(1000,.rowp 30 (cel 0 xss))]) (T:=inn 0 xss) 2 rfl rfl rfl rfl (fun s h=>zep _ _ h) ?_
   exact ih'
 ·obtain rfl:i=A.length:=by omega
  rw[zAs,y30]at i4
  clear ih
  have hXmem:∀(s:Nat) (p:Int),p∈xss0.getD s []↔∃(k:Nat) (l:List Arc) (x:Arc),A[k]? =some l∧x∈l∧x.2.2.toNat=s∧p=k:=fun s p=>by
   rw[i4,zpr fun l hl x hx=>by rw[zAr];have:=(hr l hl).2 x hx;omega]
   constructor
   ·rintro(h|⟨k,l,x,h1,h2,h3,h4⟩)
    ·rw[List.getD,List.getElem?_replicate]at h;split at h <;> simp at h
    ·exact⟨k,l,x,h1,h2,h3,by rw[h4,Nat.zero_add]⟩
   ·rintro⟨k,l,x,h1,h2,h3,h4⟩
    exact .inr ⟨k,l,x,h1,h2,h3,by rw[h4,Nat.zero_add]⟩
  have hXlen:∀xs∈xss0,xs.length≤100000000000:=fun xs hx=>by have:=i3 xs hx;have:=y1l A A.length;omega
  clear i4 i3
  refine y8n rfl ?_
  refine zxu [(1,BX F A)] (fun m=>by simp[z2f,PV.says];omega) (fun m s b hb=>?_) ?_
  ·rw[Ab.look]at hb
   split at hb
   ·rename_i h1;subst h1;simp at hb;subst hb
    exact⟨by decide,by decide,fun x=>by simp[Blk.frz,zwm,PV.frz]⟩
   ·simp[Ab.look]at hb
  refine z0o 1000 rfl ?_
  have hrow:List.replicate ((F.length:Nat):Int).toNat [D.lit (.bool false)]=(List.replicate F.length false).map boc:=by simp
  repeat' first|(apply zd8;refine zea (xs:=(List.replicate F.length false).map boc) rfl rfl (by omega) (by omega) rfl rfl rfl (by decide) (by simp) ?_)|refine z04 ?_|refine fk (fun _=>?_) fun _=>?_
  all_goals try omega
  refine z1d 50 1006 ?_
  refine z1j 9 1004 3 1 rfl rfl rfl ?_
  have hcnt:(List.replicate F.length false).count false=F.length:=by simp
  refine z0f ?_
  refine z00 (z0s (fun q:Nat × List Bool × List Int=>⟨105,[(3,.d (.slice (xss0.map fun xs=>[D.slice (xs.map icc)]))),(8,.ref (0,1006)),(9,.ref (0,1004)),(52,.d (zio F)),(53,I .i64 F.length),(54,I .i64 (q.1:Nat))],[(1006,.row 4 1 (q.2.1.map boc)),(1004,.row 3 1 (q.2.2.map icc))],H⟩) (fun q=>q.1≤F.length∧q.2.1.length=F.length∧(∀z∈q.2.2,∃s:Nat,z=(s:Int)∧q.2.1[s]? =some true)∧(∀s:Nat,q.2.1[s]? =some true↔s<q.1∧F[s]? =some true)∧(∀s:Nat,q.2.1[s]? =some true→(s:Int)∈q.2.2)∧q.2.2.length+q.2.1.count false≤F.length) (fun q=>F.length-q.1) ?_ (0,List.replicate F.length false,[]) ⟨zAf _,by simp,by simp,fun s=>by simp[List.getElem?_replicate],fun s=>by simp[List.getElem?_replicate],by simp⟩) rfl rfl
  rintro⟨q,out,stk⟩ ⟨k1,k2,k3,k4,k5,k6⟩ ih
  simp only at k1 k2 k3 k4 k5 k6 ih⊢
  by_cases hq:q<F.length
  ·obtain⟨b,hb⟩:∃b,F[q]? =some b:=⟨_,zA0 hq⟩
   obtain⟨o,ho⟩:∃o,out[q]? =some o:=⟨_,zA0 (by omega)⟩
   have hof:o=false:=by
    cases o with
    | false=>rfl
    | true=>have:=(k4 q).1 ho;omega
   subst hof
   cases b with
   | true =>
    have hc:=count_set ho
    have hset:out.set ((q:Nat):Int).toNat true=out.set q true:=by rw[zA9]
    have hoi:out[((q:Nat):Int).toNat]? =some false:=by rw[zA9];exact ho
    have up:∀s:Nat,out[s]? =some true→(out.set q true)[s]? =some true:=fun s hs=>by
     by_cases e:q=s
     ·subst e;exact zAp (by omega)
     ·rw[List.getElem?_set_ne e];exact hs
    have ih':=ih (q+1,out.set q true,stk++[((q:Nat):Int)]) ⟨by simp only;omega,by simp[k2],fun z hz=>by
     simp only at hz
     rw[zAt,zAq]at hz
     rcases hz with hz|rfl
     ·obtain⟨s,h1,h2⟩:=k3 z hz;exact⟨s,h1,up s h2⟩
     ·exact⟨q,rfl,zAp (by omega)⟩,fun s=>by
     simp only
     by_cases e:q=s
     ·subst e;rw[zAp (by omega)];simp[hb]
     ·rw[List.getElem?_set_ne e,k4 s]
      constructor
      ·rintro⟨h1,h2⟩;exact⟨by omega,h2⟩
      ·rintro⟨h1,h2⟩;exact⟨by omega,h2⟩,fun s hs=>by
     simp only at hs⊢
     by_cases e:q=s
     ·subst e;simp
     ·rw[List.getElem?_set_ne e]at hs;rw[zAt];exact .inl (k5 s hs),by simp only[zAa,zAn];omega⟩ (by simp only;omega)
    repeat' first|(apply z01;first|refine z07 (z11 (ys:=F.map boc) rfl (idx (g:=boc) hb)) rfl rfl ?_| refine z07 (z1a rfl (by simp only[zA4];omega)) rfl rfl ?_)|(apply z14;refine z2w (g:=icc) ((q:Nat):Int) rfl ?_)|(apply z0x;refine z3w true hoi hset ?_)|refine z04 ?_|refine fk (fun _=>?_) fun _=>?_
    all_goals try omega
    all_goals refine z1d 66 1004 ?_
    all_goals exact z00 ih' rfl rfl
   | false =>
    have ih':=ih (q+1,out,stk) ⟨by simp only;omega,k2,k3,fun s=>by
     simp only
     rw[k4 s]
     constructor
     ·rintro⟨h1,h2⟩;exact⟨by omega,h2⟩
     ·rintro⟨h1,h2⟩
      refine⟨?_,h2⟩
      have:s≠q:=by rintro rfl;rw[hb]at h2;cases h2
      omega,k5,k6⟩ (by simp only;omega)
    repeat' first|(apply z01;refine z07 (z11 (ys:=F.map boc) rfl (idx (g:=boc) hb)) rfl rfl ?_)|refine z04 ?_|refine fk (fun _=>?_) fun _=>?_
    all_goals exact zD8
  ·obtain rfl:q=F.length:=by omega
   have hR:Go.Ax.Reach F A xss0 out stk fun _=>False:=⟨k2,k3,fun s hs=>.fin s ((k4 s).1 hs).2,fun s hs=>(k4 s).2 ⟨(zA1.1 hs).1,hs⟩,fun s hs=>.inl (k5 s hs),k6⟩
   clear k3 k4 k5 k6 ih
   repeat' first|refine z04 ?_|refine fk (fun _=>?_) fun _=>?_
   all_goals try omega
   refine z0f ?_
   refine z00 (z0s (fun q:List Bool × List Int=>⟨105,[(3,.d (.slice (xss0.map fun xs=>[D.slice (xs.map icc)]))),(8,.ref (0,1006)),(9,.ref (0,1004))],[(1006,.row 4 1 (q.1.map boc)),(1004,.row 3 1 (q.2.map icc))],H⟩) (fun q=>Go.Ax.Reach F A xss0 q.1 q.2 fun _=>False) (fun q=>2*q.1.count false+q.2.length) ?_ (out,stk) hR) rfl rfl
   clear hR k2 out stk
   rintro⟨out,stk⟩ hR ih
   simp only at hR ih⊢
   rcases Go.Ab.zdj stk with rfl|⟨stk,z,rfl⟩
   ·have hfin:=zne hR.len (hR.done hXmem)
    rw[←hfin]
    repeat' first|(apply z14;refine z07 (z18 rfl) rfl rfl ?_)|refine z04 ?_|fail
    all_goals try (exfalso;simp at *;done)
    all_goals refine z0o 1006 rfl ?_
    all_goals exact z03 func147 _ z1h ⟨rfl,rfl⟩
   ·obtain⟨s0,rfl,hs0⟩:=hR.onS z (by simp)
    have hs0l:s0<F.length:=by have:=(zA1.1 hs0).1;rw[hR.len]at this;exact this
    obtain⟨bq,hbq⟩:∃bq,xss0[s0]? =some bq:=⟨_,zA0 (by omega)⟩
    have hbqi:xss0[((s0:Nat):Int).toNat]? =some bq:=by rw[zA9];exact hbq
    have hbl:=hXlen bq (zA2 hbq)
    have hll:(stk++[((s0:Nat):Int)]).length=stk.length+1:=by simp
    have hlast:(stk++[((s0:Nat):Int)])[((((stk++[((s0:Nat):Int)]).length:Nat):Int)-1).toNat]? =some ((s0:Nat):Int):=by
     rw[hll,show(((stk.length+1:Nat):Int)-1).toNat=stk.length by omega];simp
    have hfew:=hR.few
    have htake:((stk++[((s0:Nat):Int)]).map icc).take (((((stk++[((s0:Nat):Int)]).length:Nat):Int)-1).toNat)=stk.map icc:=by
     rw[hll,show(((stk.length+1:Nat):Int)-1).toNat=stk.length by omega,List.map_append,List.take_left' (by simp)]
    repeat' first|(apply z1f;refine z07 (z0e (u:=z2i (s0:Nat)) hlast) rfl rfl ?_)|(apply z01;first|refine z07 (z1a rfl (by simp only[zA4];omega)) rfl rfl ?_| refine z07 (z11 (ys:=xss0.map fun xs=>[D.slice (xs.map icc)]) rfl (zam (g:=fun xs=>[D.slice (xs.map icc)]) hbqi)) rfl rfl ?_)|(apply z98;refine z07 (zvp rfl (by omega) (by simp only[zA4];omega) rfl) rfl rfl ?_)|(apply z14;refine z07 (z18 rfl) rfl rfl ?_)|refine z04 ?_|refine fk (fun _=>?_) fun _=>?_
    all_goals try omega
    refine zzt 9 1005 rfl rfl (by simp only[zA4];omega) rfl (by decide) ?_
    rw[htake]
    refine z1d 1005 1004 ?_
    refine z0f ?_
    have hR1:=hR.pop
    have hs0X:∀p∈bq,∃k:Nat,p=(k:Int)∧k<F.length∧z57 F A k:=fun p hp=>by
     obtain⟨k,l,x,h1,h2,h3,h4⟩:=(hXmem s0 p).1 (by rw[List.getD,hbq];exact hp)
     refine⟨k,h4,by have:=(zA1.1 h1).1;omega,.arc k l x h1 h2 ?_⟩
     rw[h3];exact hR.sound s0 hs0
    refine z00 (z0s (fun q:Nat × List Bool × List Int=>⟨105,[(3,.d (.slice (xss0.map fun xs=>[D.slice (xs.map icc)]))),(8,.ref (0,1006)),(9,.ref (0,1004)),(85,.d (.slice (bq.map icc))),(86,I .i64 bq.length),(87,I .i64 (q.1:Nat))],[(1006,.row 4 1 (q.2.1.map boc)),(1004,.row 3 1 (q.2.2.map icc))],H⟩) (fun q=>q.1≤bq.length∧(Go.Ax.Reach F A xss0 q.2.1 q.2.2 fun s=>s=s0)∧(∀p∈bq.take q.1,q.2.1[p.toNat]? =some true)∧2*q.2.1.count false+q.2.2.length≤2*out.count false+stk.length) (fun q=>bq.length-q.1) ?_ (0,out,stk) ⟨zAf _,hR1,by simp,zAj _⟩) rfl rfl
    rintro⟨j,out2,stk2⟩ ⟨j1,hR2,j3,j4⟩ ihj
    simp only at j1 hR2 j3 j4 ihj⊢
    by_cases hj:j<bq.length
    ·obtain⟨p,hp⟩:∃p,bq[j]? =some p:=⟨_,zA0 hj⟩
     obtain⟨kk,rfl,hk,hlead⟩:=hs0X p (zA2 hp)
     obtain⟨o,ho⟩:∃o,out2[kk]? =some o:=⟨_,zA0 (by rw[hR2.len];exact hk)⟩
     have hoi:out2[((kk:Nat):Int).toNat]? =some o:=by rw[zA9];exact ho
     have htk:bq.take (j+1)=bq.take j++[((kk:Nat):Int)]:=by rw[List.take_add_one,hp];rfl
     have hfew2:=hR2.few
     have hol:=hR2.len
     cases o with
     | true =>
      have ihj':=ihj (j+1,out2,stk2) ⟨by simp only;omega,hR2,fun z hz=>by
       simp only at hz⊢
       rw[htk,zAt,zAq]at hz
       rcases hz with hz|rfl
       ·exact j3 z hz
       ·exact hoi,j4⟩ (by simp only;omega)
      repeat' first|(apply z1f;refine z07 (z0e (u:=zdm true) hoi) rfl rfl ?_)|(apply z01;first|refine z07 (z11 (ys:=bq.map icc) rfl (idx (g:=icc) hp)) rfl rfl ?_| refine z07 (z1a rfl (by simp only[zA4];omega)) rfl rfl ?_)|refine z04 ?_|refine fk (fun _=>?_) fun _=>?_
      all_goals exact zD104
     | false =>
      have hc:=count_set ho
      have hset:out2.set ((kk:Nat):Int).toNat true=out2.set kk true:=by rw[zA9]
      have ihj':=ihj (j+1,out2.set kk true,stk2++[((kk:Nat):Int)]) ⟨by simp only;omega,hR2.push ho hlead,fun z hz=>by
       simp only at hz⊢
       rw[htk,zAt,zAq]at hz
       rcases hz with hz|rfl
       ·have:=j3 z hz
        by_cases e:kk=z.toNat
        ·rw[←e];exact zAp (by omega)
        ·rw[List.getElem?_set_ne e];exact this
       ·rw[zA9];exact zAp (by omega),by simp only[zAa,zAn];omega⟩ (by simp only;omega)
      repeat' first|(apply z1f;refine z07 (z0e (u:=zdm false) hoi) rfl rfl ?_)|(apply z01;first|refine z07 (z11 (ys:=bq.map icc) rfl (idx (g:=icc) hp)) rfl rfl ?_| refine z07 (z1a rfl (by simp only[zA4];omega)) rfl rfl ?_)|(apply z14;refine z2w (g:=icc) ((kk:Nat):Int) rfl ?_)|(apply z0x;refine z3w true hoi hset ?_)|refine z04 ?_|refine fk (fun _=>?_) fun _=>?_
      all_goals try (exfalso;first|omega|(simp at *;done))
      all_goals refine z1d 102 1004 ?_
      all_goals exact z00 ihj' rfl rfl
    ·obtain rfl:j=bq.length:=by omega
     rw[List.take_length]at j3
     have ih':=ih (out2,stk2) (hR2.shut (by rw[List.getD,hbq];exact j3)) (by simp only[zAa,zAn];omega)
     all_goals exact zD84
theorem zl7:zir prog 9 (fun x:ByteArray=>Value.string x):=zom.gen (T9.str rfl)
theorem zul{a:ByteArray}:∀β w own v,PR β w own (S a) v→v=Value.string a:=fun β w own v h=>h.lit
theorem zpl{K:Type}:∀(ks:List K) (i:Nat),(z3j i ks).length=ks.length
 | [],_=>rfl
 | k::ks,i=>by rw[z3j,zAk,zpl ks,zAk]
abbrev mpB(ks:List ByteArray):Blk:=.mp ((z3j 0 ks).map fun p=>(Value.string p.1,p.2))
theorem zhu{n:Nat}{tm:List (Nat × PV)}{hp:Hp}{up:Hf}{d:Nat}{ty:TypeId}{pos:String}{aft:Array Go.Edge}{gd:Option (Nat × Bool)}{x:Operand}{t kt et:TypeId}{ms:Nat}{ks:List ByteArray}(hm:prog.underlying t=some (.map kt et))(hx:St.ev ⟨n,tm,hp,up⟩ x=some (.ref (0,ms)))(hb:Ab.look hp ms=some (mpB ks))(hd:d<n) :
 z0y prog ⟨some d,.call ⟨.builtin .len,#[x],#[t]⟩,ty,pos,aft,gd⟩ ⟨n,tm,hp,up⟩ ⟨n,(d,I .i64 ks.length)::tm,hp,up⟩:=by
 have:=y32 (P:=prog) (ty:=ty) (pos:=pos) (aft:=aft) (gd:=gd) hm hx hb hd
 rwa [zA4,zpl]at this
theorem zh3{a:List Int}{n q:Nat}(hq:a.length=q)(h:q<n)(v w:Int):(a++v::List.replicate (n-q-1) 0).set q w=a++w::List.replicate (n-q-1) 0:=by
 subst hq;simp
theorem ziy{n q:Nat}(h:q<n):List.replicate (n-q) (0:Int)=0::List.replicate (n-q-1) 0:=by
 obtain⟨k,hk⟩:∃k,n-q=k+1:=⟨n-q-1,by omega⟩
 rw[hk,List.replicate_succ,show k+1-1=k by omega]
def yc1(o:Option (List Int)):PV:=match o with
 | some cl=>.tup [.d (ints cl),B true]
 | none=>.tup [.d (ints []),B false]
theorem zsf(F:List Bool)(A:List (List Arc))(lim:Int)(hl0:0≤lim)(hAF:A.length=F.length)(hr:∀l∈A,l.length≤2000000∧∀x∈l,0≤x.1∧x.1≤x.2.1∧x.2.1≤1114111∧0≤x.2.2∧x.2.2<F.length)(hlen:F.length≤4000000)(htot:(A.map List.length).sum≤1000000000) :
 z0a prog 114 [.d (auD ⟨F,A⟩),I .i64 lim] (yc1 (y3q F A lim.toNat)):=by
 refine z0q fun H=>?_
 have hal:=y3v F A hAF (fun l hl=>⟨(hr l hl).1,fun x hx=>by have:=(hr l hl).2 x hx;omega⟩) hlen (by omega)
 have hLl:(z3m F A).length=F.length:=by simp[z3m]
 have hA1:∀l∈A,∀x∈l,0≤x.1∧x.1≤x.2.1∧x.2.1≤1114111:=fun l hl x hx=>by have:=(hr l hl).2 x hx;omega
 have hW0:=zsg F A
 have hc0:∀q,q<F.length→(cl0 F A).take (q+1)=(cl0 F A).take q++[if(z3m F A).getD q false=true then(if F.getD q false=true then 1 else 0)else -1]:=fun q hq=>by
  rw[List.take_add_one]
  congr 1
  simp[cl0,hq]
 have hcl0:(cl0 F A).length=F.length:=hW0.len
 rw[y3q]
 generalize hres:zq7 A lim.toNat (F.length+1) 0 (cl0 F A)=res
 generalize z3m F A=L at *
 generalize cl0 F A=C0 at *
 refine z05 func114 (by kernel_rfl) rfl (by simp) ?_
 dsimp only[f114]
 repeat' first|(apply z14;refine z07 (z18 rfl) rfl rfl ?_)|(apply z06;refine z1o hal ?_)|(apply z1n;refine z09 z3s ?_)|(apply zd8;refine zea (xs:=(List.replicate F.length (0:Int)).map icc) rfl rfl (Int.natCast_nonneg _) (by show((F.length:Nat):Int)≤_;omega) rfl rfl rfl (by decide) (by simp) ?_)|refine z04 ?_|fail
 all_goals try omega
 refine z1d 24 1000 ?_
 rw[show((List.replicate F.length (0:Int)).length)=F.length by simp]
 refine z0f ?_
 refine z00 (z0s (fun q:Nat=>⟨129,[(1,I .i64 lim),(2,.ptr (0,2) 0),(6,.d (zio L)),(7,.ref (0,1000)),(26,I .i64 F.length),(27,I .i64 (q:Nat))],[(1000,.row 3 1 ((C0.take q++List.replicate (F.length-q) 0).map icc)),(2,BX F A)],H⟩) (fun q=>q≤F.length) (fun q=>F.length-q) ?_ 0 (zAf _)) rfl rfl
 ·intro q hq ih
  by_cases hlt:q<F.length
  ·obtain⟨b,hb⟩:∃b,F[q]? =some b:=⟨_,zA0 hlt⟩
   obtain⟨o,ho⟩:∃o,L[q]? =some o:=⟨_,zA0 (by omega)⟩
   have hcq:=hc0 q hlt
   rw[List.getD,ho,Option.getD_some,List.getD,hb,Option.getD_some]at hcq
   have ih':=ih (q+1) (by omega) (by omega)
   have hrs:=ziy hlt
   have htl:(C0.take q).length=q:=by rw[zAm];omega
   have hget:(C0.take q++List.replicate (F.length-q) 0)[((q:Nat):Int).toNat]? =some 0:=by
    rw[hrs,zA9,zAg (by omega),htl,Nat.sub_self];rfl
   have hset:∀v,(C0.take q++List.replicate (F.length-q) 0).set ((q:Nat):Int).toNat v=C0.take q++[v]++List.replicate (F.length-(q+1)) 0:=fun v=>by
    rw[hrs,zA9,zh3 htl hlt,show F.length-(q+1)=F.length-q-1 by omega];simp
   have hno:C0.take q++List.replicate (F.length-q) 0=C0.take q++[0]++List.replicate (F.length-(q+1)) 0:=by
    rw[hrs,show F.length-(q+1)=F.length-q-1 by omega];simp
   rw[hcq]at ih'
   cases o with
   | false =>
    rw[zAy (by decide)]at ih'
    have hs1:=hset (-1)
    repeat' first|(apply z01;first|refine z07 (z11 (ys:=L.map boc) rfl (idx (g:=boc) ho)) rfl rfl ?_| refine z07 (z1a rfl (by simp only[zA4,zAa,zAr,htl];omega)) rfl rfl ?_)|(apply z0x;refine z3w (-1:Int) hget hs1 ?_)|refine z04 ?_|refine fk (fun _=>?_) fun _=>?_
    all_goals exact zD25
   | true =>
    rw[zAz rfl]at ih'
    cases b with
    | true =>
     rw[zAz rfl]at ih'
     have hs1:=hset 1
     repeat' first|(apply z01;first|refine z07 (z11 (ys:=L.map boc) rfl (idx (g:=boc) ho)) rfl rfl ?_| refine z07 (z11 (ys:=F.map boc) rfl (idx (g:=boc) hb)) rfl rfl ?_| refine z07 (z1a rfl (by simp only[zA4,zAa,zAr,htl];omega)) rfl rfl ?_)|(apply z0x;refine z3w (1:Int) hget hs1 ?_)|refine z04 ?_|refine fk (fun _=>?_) fun _=>?_
     all_goals exact zD25
    | false =>
     rw[zAy (by decide),←hno]at ih'
     repeat' first|(apply z01;first|refine z07 (z11 (ys:=L.map boc) rfl (idx (g:=boc) ho)) rfl rfl ?_| refine z07 (z11 (ys:=F.map boc) rfl (idx (g:=boc) hb)) rfl rfl ?_)|refine z04 ?_|refine fk (fun _=>?_) fun _=>?_
     all_goals exact zD25
  ·obtain rfl:q=F.length:=by omega
   clear ih
   rw[Nat.sub_self,List.replicate_zero,List.append_nil,show C0.take F.length=C0 by rw[←hcl0,List.take_length]]
   refine z0o 1000 rfl ?_
   repeat' first|refine z04 ?_|refine fk (fun _=>?_) fun _=>?_
   all_goals try omega
   refine z0f ?_
   refine z00 (z0s (fun q:Nat × Nat × List Int=>⟨129,[(1,I .i64 lim),(2,.ptr (0,2) 0),(7,.d (ints q.2.2)),(9,I .i64 (q.2.1:Nat))],[(2,BX F A)],H⟩) (fun q=>ClW F.length q.2.1 q.2.2∧zq7 A lim.toNat q.1 q.2.1 q.2.2=res∧F.length+1≤q.1+q.2.1) (fun q=>q.1) ?_ (F.length+1,0,C0) ⟨hW0,hres,by simp only;omega⟩) rfl rfl
   clear hres hW0 hc0 hcl0 hLl hal
   rintro⟨f,c,cl⟩ ⟨hW,hres,hf⟩ ih
   simp only at hW hres hf ih⊢
   obtain⟨f,rfl⟩:∃f',f=f'+1:=⟨f-1,by have:=hW.few;omega⟩
   rw[zq7]at hres
   obtain⟨hmore,hW2⟩:=ztm hlen hW hA1
   have hcl:=hW.len
   have hrnd:rnd A cl=(List.range F.length).foldl (z9u A cl) ([],[]):=by rw[rnd,hcl]
   repeat' first|(apply z0r;refine zbd (by decide) rfl ?_)|(apply zd8;refine zea (xs:=(List.replicate F.length (0:Int)).map icc) rfl rfl (Int.natCast_nonneg _) (by first|omega|(simp only[zA4];omega)) rfl rfl rfl (by decide) (by simp[hcl]) ?_)|refine z04 ?_|fail
   refine z1d 52 1001 ?_
   refine z0f ?_
   rw[hcl]
   refine z00 (z0s (fun q:Nat × List ByteArray × List Int=>⟨129,[(1,I .i64 lim),(2,.ptr (0,2) 0),(7,.d (ints cl)),(9,I .i64 (c:Nat)),(10,.ref (0,49)),(11,.ref (0,1001)),(53,.d (ints cl)),(54,I .i64 F.length),(55,I .i64 (q.1:Nat))],[(49,mpB q.2.1),(1001,.row 3 1 ((q.2.2++List.replicate (F.length-q.1) 0).map icc)),(2,BX F A)],H⟩) (fun q=>q.1≤F.length∧q.2=(List.range q.1).foldl (z9u A cl) ([],[])) (fun q=>F.length-q.1) ?_ (0,[],[]) ⟨zAf _,rfl⟩) rfl rfl
   rintro⟨q,sigs,nx⟩ ⟨q1,q2⟩ ihq
   simp only at q1 q2 ihq⊢
   have hRn:=rnS A cl q
   rw[←q2]at hRn
   have hnl:nx.length=q:=hRn.len
   have hsl:sigs.length≤q:=hRn.few
   clear hRn
   by_cases hlt:q<F.length
   ·obtain⟨k,hk⟩:∃k,cl[q]? =some k:=⟨_,zA0 (by omega)⟩
    obtain⟨l,hl⟩:∃l,A[q]? =some l:=⟨_,zA0 (by omega)⟩
    have hkr:=hW.rng k (zA2 hk)
    have hone:(List.range (q+1)).foldl (z9u A cl) ([],[])=z9u A cl (sigs,nx) q:=by
     rw[List.range_succ,List.foldl_append,List.foldl_cons,List.foldl_nil,←q2]
    rw[z9u,z34 hk,sgA,z34 hk,List.getD,hl,Option.getD_some]at hone
    have hrs:=ziy hlt
    have hget:(nx++List.replicate (F.length-q) 0)[((q:Nat):Int).toNat]? =some 0:=by
     rw[hrs,zA9,zAg (by omega),hnl,Nat.sub_self];rfl
    have hset1:(nx++List.replicate (F.length-q) 0).set ((q:Nat):Int).toNat (-1)=nx++(-1)::List.replicate (F.length-q-1) 0:=by
     rw[hrs,zA9,zh3 hnl hlt]
    by_cases hneg:k<0
    ·rw[zAz hneg]at hone
     have ih':=ihq (q+1,sigs,nx++[-1]) ⟨by simp only;omega,hone.symm⟩ (by simp only;omega)
     simp only at ih'
     rw[show nx++[-1]++List.replicate (F.length-(q+1)) 0=nx++(-1)::List.replicate (F.length-q-1) 0 by rw[show F.length-(q+1)=F.length-q-1 by omega];simp]at ih'
     repeat' first|(apply z01;first|refine z07 (z11 (ys:=cl.map icc) rfl (idx (g:=icc) hk)) rfl rfl ?_| refine z07 (z1a rfl (by simp only[zA4,zAa,zAr];omega)) rfl rfl ?_)|(apply z0x;refine z3w (-1:Int) hget hset1 ?_)|refine z04 ?_|refine fk (fun _=>?_) fun _=>?_
     all_goals exact zD8
    ·rw[zAy hneg]at hone
     obtain⟨l1,l2⟩:=hr l (zA2 hl)
     have hnum:=y0o k (by omega)
     have hby:=zkl l cl l1 fun x hx=>by have:=l2 x hx;omega
     have hbm:=zgl (B:=4000000) (fun q=>(zas hW.rng q).2) (hA1 l (zA2 hl))
     have hbl:=ztp (cl:=cl) (l:=l)
     have hsig:y2i cl k l=z68 k++(byC cl l).flatMap fun x=>z68 x.1++z68 x.2.1++z68 x.2.2:=rfl
     generalize byC cl l=es at *
     repeat' first|(apply z01;first|refine z07 (z11 (ys:=cl.map icc) rfl (idx (g:=icc) hk)) rfl rfl ?_| refine z07 (z1a rfl (by simp only[zA4,zAa,zAr];omega)) rfl rfl ?_| refine z07 (z11 (ys:=A.map z7m) rfl (idx hl)) rfl rfl ?_)|(apply z14;refine zfi (g:=by8) (q:=[]) (r:=z68 k) rfl rfl rfl rfl rfl (fun _=>rfl) rfl rfl (by decide) (by simp[z68]) ?_)|(apply z06;first|refine z1o hnum ?_| refine z1o hby ?_)|(apply z0x;refine z3w (-1:Int) hget hset1 ?_)|(apply zqq;refine zj9 rfl rfl rfl rfl rfl rfl rfl rfl rfl (by decide) ?_)|refine z04 ?_|refine fk (fun _=>?_) fun _=>?_
     all_goals try omega
     refine z1d 68 1002 ?_
     refine z0f ?_
     refine z00 (z0s (fun z:Nat × List Int=>⟨129,[(1,I .i64 lim),(2,.ptr (0,2) 0),(7,.d (ints cl)),(9,I .i64 (c:Nat)),(10,.ref (0,49)),(11,.ref (0,1001)),(12,I .i64 (q:Nat)),(14,.ref (0,1002)),(53,.d (ints cl)),(54,I .i64 F.length),(55,I .i64 (q:Nat)),(75,.d (zde es)),(76,I .i64 es.length),(77,I .i64 (z.1:Nat))],[(1002,.row 5 1 (z.2.map by8)),(49,mpB sigs),(1001,.row 3 1 ((nx++(-1)::List.replicate (F.length-q-1) 0).map icc)),(2,BX F A)],H⟩) (fun z=>z.1≤es.length∧z.2.length=4+12*z.1∧z.2++((es.drop z.1).flatMap fun x=>z68 x.1++z68 x.2.1++z68 x.2.2)=y2i cl k l) (fun z=>es.length-z.1) ?_ (0,z68 k) ⟨zAf _,rfl,hsig.symm⟩) rfl rfl
     rintro⟨j,sg⟩ ⟨j1,j2,j3⟩ ihj
     simp only at j1 j2 j3 ihj⊢
     by_cases hj:j<es.length
     ·obtain⟨x,hx⟩:∃x,es[j]? =some x:=⟨_,zA0 hj⟩
      obtain⟨x1,x2,x3,x4,x5,x6⟩:=hbm x (zA2 hx)
      have hn1:=y0o x.1 x1
      have hn2:=y0o x.2.1 x3
      have hn3:=y0o x.2.2 x5
      rw[drop_cons hx,List.flatMap_cons]at j3
      have ihj':=ihj (j+1,sg++z68 x.1++z68 x.2.1++z68 x.2.2) ⟨by simp only;omega,by simp only[zAa,z68,zAk,List.length_nil];omega,by rw[←j3];simp⟩ (by simp only;omega)
      repeat' first|(apply z01;refine z07 (z11 (ys:=es.map z3g) rfl (idx hx)) rfl rfl ?_)|(apply z4i;first|refine zk3 (g:=by8) (q:=sg) (r:=z68 x.1) (by first|exact rfl|exact⟨_,rfl,rfl,rfl⟩) rfl rfl rfl rfl rfl (fun _=>rfl) rfl rfl (by decide) (by simp[z68];omega) ?_|refine zk3 (g:=by8) (q:=sg++z68 x.1) (r:=z68 x.2.1) (by first|exact rfl|exact⟨_,rfl,rfl,rfl⟩) rfl rfl rfl rfl rfl (fun _=>rfl) rfl rfl (by decide) (by simp[z68];omega) ?_|refine zk3 (g:=by8) (q:=sg++z68 x.1++z68 x.2.1) (r:=z68 x.2.2) (by first|exact rfl|exact⟨_,rfl,rfl,rfl⟩) rfl rfl rfl rfl rfl (fun _=>rfl) rfl rfl (by decide) (by simp[z68];omega) ?_)|(apply z0l;first|refine z3t hn1 ?_| refine z3t hn2 ?_| refine z3t hn3 ?_)|refine z04 ?_|refine fk (fun _=>?_) fun _=>?_
      all_goals try omega
      all_goals refine z1d 95 1002 ?_
      all_goals exact z00 ihj' rfl rfl
     ·obtain rfl:j=es.length:=by omega
      rw[zAs,List.flatMap_nil,List.append_nil]at j3
      rw[←j3]at hone
      clear ihj
      have hBA:toB sg=strOfNums sg:=rfl
      rw[hBA]at hone
      have hmg:=zac (strOfNums sg) sigs 0
      refine z0o 1002 rfl ?_
      have hget2:(nx++(-1)::List.replicate (F.length-q-1) 0)[((q:Nat):Int).toNat]? =some (-1):=by
       rw[zA9,zAg (by omega),hnl,Nat.sub_self];rfl
      have hset2:(nx++(-1)::List.replicate (F.length-q-1) 0).set ((q:Nat):Int).toNat (z3o (strOfNums sg) sigs:Nat)=nx++((z3o (strOfNums sg) sigs:Nat):Int)::List.replicate (F.length-q-1) 0:=by
       rw[zA9,zh3 hnl hlt]
      have ih':=ihq (q+1,z7j sigs (strOfNums sg),nx++[((z3o (strOfNums sg) sigs:Nat):Int)]) ⟨by simp only;omega,hone.symm⟩ (by simp only;omega)
      simp only at ih'
      rw[show nx++[((z3o (strOfNums sg) sigs:Nat):Int)]++List.replicate (F.length-(q+1)) 0=nx++((z3o (strOfNums sg) sigs:Nat):Int)::List.replicate (F.length-q-1) 0 by rw[show F.length-(q+1)=F.length-q-1 by omega];simp]at ih'
      clear ihq hone
      by_cases hknown:strOfNums sg∈sigs
      ·rw[z7j,zAz hknown]at ih'
       rw[zAz hknown,Nat.zero_add]at hmg
       have hget1:(z5t (z3j 0 sigs) (strOfNums sg)).getD (.lit (.int .i64 0))=z2i (z3o (strOfNums sg) sigs:Nat):=by rw[hmg];rfl
       have hgets:(z5t (z3j 0 sigs) (strOfNums sg)).isSome=true:=by rw[hmg];rfl
       generalize z3o (strOfNums sg) sigs=qv at *
       repeat' first|(apply z0r;refine z09 (z2a (et:=3) (a:=strOfNums sg) (q:=z3j 0 sigs) (z0:=Value.int .i64 0) (py:=S (strOfNums sg)) (by kernel_rfl) zl7 (z2d (by kernel_rfl)) rfl rfl rfl zul rfl hget1 hgets (by decide)) ?_)|(apply z01;refine z07 (z1a rfl (by simp only[zA4,zAa,zAk,zAr];omega)) rfl rfl ?_)|(apply z0x;refine z3w _ hget2 hset2 ?_)|refine z04 ?_|refine fk (fun _=>?_) (fun _=>?_)|(apply z0r;refine z07 (zhh (l:=sg) rfl rfl rfl) rfl rfl ?_)
       all_goals exact zD25
      ·rw[z7j,zAy hknown]at ih'
       rw[zAy hknown]at hmg
       have hget1:(z5t (z3j 0 sigs) (strOfNums sg)).getD (.lit (.int .i64 0))=z2i 0:=by rw[hmg];rfl
       have hgets:(z5t (z3j 0 sigs) (strOfNums sg)).isSome=false:=by rw[hmg];rfl
       have hput:=zcx hknown
       rw[z48 hknown]at ih' hset2
       dsimp only[mpB]at ih'
       rw[←hput]at ih'
       repeat' first|(apply z0r;first|refine z09 (z2a (et:=3) (a:=strOfNums sg) (q:=z3j 0 sigs) (z0:=Value.int .i64 0) (py:=S (strOfNums sg)) (by kernel_rfl) zl7 (z2d (by kernel_rfl)) rfl rfl rfl zul rfl hget1 hgets (by decide)) ?_|refine z09 (zhu (kt:=9) (et:=3) (ks:=sigs) (by kernel_rfl) rfl rfl (by decide)) ?_)|(apply z01;refine z07 (z1a rfl (by simp only[zA4,zAa,zAk,zAr];omega)) rfl rfl ?_)|(apply z0x;refine z3w _ hget2 hset2 ?_)|refine z04 ?_|refine fk (fun _=>?_) (fun _=>?_)|(apply z0r;first|refine z07 (zhh (l:=sg) rfl rfl rfl) rfl rfl ?_| refine z5n (et:=3) (a:=strOfNums sg) (v:=z2i (sigs.length:Nat)) (py:=S (strOfNums sg)) (q:=z3j 0 sigs) (by kernel_rfl) zl7 rfl rfl zul rfl rfl rfl ?_)
       all_goals exact zD25
   ·obtain rfl:q=F.length:=by omega
    rw[←hrnd]at q2
    rw[←q2]at hres hmore hW2
    simp only at hres hmore hW2
    clear ihq
    rw[Nat.sub_self,List.replicate_zero,List.append_nil]
    refine z0o 1001 rfl ?_
    by_cases hlim:lim.toNat<sigs.length
    ·rw[zAz hlim]at hres
     rw[←hres]
     repeat' first|(apply z0r;refine z09 (zhu (kt:=9) (et:=3) (ks:=sigs) (by kernel_rfl) rfl rfl (by decide)) ?_)|refine z04 ?_|refine fk (fun _=>?_) fun _=>?_
     all_goals try omega
     refine zw4 4 rfl ?_
     exact z03 func114 _ z1z ⟨rfl,rfl⟩
    ·rw[zAy hlim]at hres
     by_cases hcc:sigs.length=c
     ·rw[zAz hcc]at hres
      rw[←hres]
      repeat' first|(apply z0r;refine z09 (zhu (kt:=9) (et:=3) (ks:=sigs) (by kernel_rfl) rfl rfl (by decide)) ?_)|refine z04 ?_|refine fk (fun _=>?_) fun _=>?_
      all_goals try omega
      all_goals exact z03 func114 _ z1z ⟨rfl,rfl⟩
     ·rw[zAy hcc]at hres
      have ih':=ih (f,sigs.length,nx) ⟨hW2,hres,by simp only;omega⟩ (by simp only;omega)
      repeat' first|(apply z0r;refine z09 (zhu (kt:=9) (et:=3) (ks:=sigs) (by kernel_rfl) rfl rfl (by decide)) ?_)|refine z04 ?_|refine fk (fun _=>?_) fun _=>?_
      all_goals exact zD8
end Go.Proofs.YtmcggompdmngmaaGreatDoor
