/- A part of the proof: A11 to A23. -/
import Derived.Test.YthdfkabdoidjfaaGreatDoorV1
import Derived.Test.YthdfkabdoidjfaaGreatDoorVy
import Derived.Test.YthdfkabdoidjfaaGreatDoorVc
import Derived.ArgAppend
set_option linter.all false
namespace Go.Proofs.YthdfkabdoidjfaaGreatDoor
open Go.Ab Go.Ax
set_option maxHeartbeats 20000000
set_option maxRecDepth 100000
attribute [local irreducible] Run Ops Op1 z2a Val Tr z0y z1x NF Rel z3i z3g
section
variable {K:Type} [DecidableEq K]
def z3x:Nat→List K→List (K × D)
 | _,[]=>[]
 | i,k::ks=>(k,z2w (i:Nat))::z3x (i+1) ks
theorem z8u (k:K):∀ (ks:List K) (i:Nat),z63 (z3x i ks) k=if k∈ks then some (z2w ((i+z4l k ks:Nat):Int)) else none
 | [],i=>by simp[z3x,z63]
 | x::ks,i=>by
  rw[z3x,z63,z4l]
  by_cases h:x=k
  · rw[zAz h,zAz h,zAz (by simp[h])];rfl
  · rw[zAy h,zAy h,z8u k ks (i+1)]
    by_cases h2:k∈ks
    · rw[zAz h2,zAz (by simp[h2]),show i+1+z4l k ks=i+(z4l k ks+1) by omega]
    · rw[zAy h2,zAy (by simp[h2,Ne.symm h])]
theorem zla (k:K):∀ (ks:List K) (i:Nat),z3x i (ks++[k])=z3x i ks++[(k,z2w ((i+ks.length:Nat):Int))]
 | [],i=>by simp[z3x]
 | x::ks,i=>by
  rw[List.cons_append,z3x,z3x,zla k ks (i+1),List.cons_append,zAk,show i+1+ks.length=i+(ks.length+1) by omega]
theorem zn0 {x:K × D}:∀ {ks:List K} {i:Nat},x∈z3x i ks→x.1∈ks
 | [],i,h=>by simp[z3x] at h
 | y::ks,i,h=>by
  rw[z3x,zAc] at h
  rcases h with h|h
  · rw[h];simp
  · exact List.mem_cons_of_mem _ (zn0 h)
theorem za0 {k:K} {ks:List K} (h:k∉ks):zfv (z3x 0 ks) k (z2w (ks.length:Nat))=z3x 0 (ks++[k]):=by
 rw[zc9 (z3x 0 ks) k _ (fun x hx e=>h (by rw[← e];exact zn0 hx)),zla,Nat.zero_add]
theorem z4i {k:K}:∀ {l:List K},k∉l→z4l k l=l.length
 | [],_=>rfl
 | x::l,h=>by
  rw[zAc,not_or] at h
  rw[z4l,zAy (Ne.symm h.1),z4i h.2];rfl
end
theorem ze1:zgw Tryz.prog 3 (fun x:Int=>Value.int .i64 x):=(y2w .i64).gen (T3.int rfl)
theorem zdp {a:Int}:∀ β w own v,PR β w own (I .i64 a) v→v=Value.int .i64 a:=fun β w own v h=>h.lit
def exR (o:Option Au):PV:=match o with
 | some a=>.tup [.d (auD a),B true]
 | none=>.tup [.d (auD ⟨[],[]⟩),B false]
def edE {K:Type} (es:List (Go.Ax.Edge K)):Prop:=es.length≤2000000∧∀ e∈es,0≤e.1∧e.1≤e.2.1∧e.2.1≤1114111
abbrev mpI (ks:List Int):Blk:=.mp ((z3x 0 ks).map fun p=>(Value.int .i64 p.1,p.2))
abbrev icc (x:Int):List D:=[z2w x]
def zt3 (k:Bool × Nat):Value:=.agg #[.bool k.1,.int .u64 (k.2:Nat)]
def zeg (k:Int × Int):Value:=.agg #[.int .i64 k.1,.int .i64 k.2]
abbrev mpS (ks:List (Bool × Nat)):Blk:=.mp ((z3x 0 ks).map fun p=>(zt3 p.1,p.2))
abbrev mpP (ks:List (Int × Int)):Blk:=.mp ((z3x 0 ks).map fun p=>(zeg p.1,p.2))
abbrev scc (x:Bool × Nat):List D:=[zby x.1,zwr (x.2:Nat)]
abbrev pcc (x:Int × Int):List D:=[z2w x.1,z2w x.2]
abbrev scP (x:Bool × Nat):PV:=.d (.agg (scc x))
abbrev pcP (x:Int × Int):PV:=.d (.agg (pcc x))
abbrev sed (e:Go.Ax.Edge (Bool × Nat)):List D:=[z2j e.1,z2j e.2.1,zby e.2.2.1,zwr (e.2.2.2:Nat)]
abbrev ped (e:Go.Ax.Edge (Int × Int)):List D:=[z2j e.1,z2j e.2.1,z2w e.2.2.1,z2w e.2.2.2]
abbrev boc (b:Bool):List D:=[zby b]
theorem zc6 {K:Type} [DecidableEq K] (ks:List K) (k:K):(z7c ks k).length≤ks.length+1:=by rw[z7c];split <;> simp
theorem z9r {K:Type} [DecidableEq K] {ks:List K} {k x:K} (h:x∈z7c ks k):x=k∨x∈ks:=by
 rw[z7c] at h
 split at h
 · exact .inr h
 · rw[zAt,zAq] at h;exact h.symm
theorem znt (b1:Blk) (ok:Int→Prop) (fin:Int→Bool) (edg:Int→List (Go.Ax.Edge (Int))) (first:Int) (lim:Int) (hl0:1≤lim) (hl1:lim≤2000000) (hok0:ok first)
 (hfin:∀ k,ok k→z1x Tryz.prog 83 [I .i64 k,.ptr (1,1) 0] [((1,1),b1)] [] (B (fin k))) (hedg:∀ k,ok k→z1x Tryz.prog 84 [I .i64 k,.ptr (1,1) 0] [((1,1),b1)] [] (.d (zbp (edg k)))) (hE:∀ k,ok k→edE (edg k)∧∀ e∈edg k,ok e.2.2)
 (H:Hf) (hb1:H 0 1=some b1) :
 Ab.Spec Tryz.prog 82 [I .i64 first,.fn (.func 83) [] [.ptr (0,1) 0],.fn (.func 84) [] [.ptr (0,1) 0],I .i64 lim] H (fun r H'=>r=.v (exR (exL fin edg lim.toNat (lim.toNat+1) 0 [first] ⟨[],[]⟩))∧H'=H):=by
 have hb:∀ (n:Nat) (tm:List (Nat × PV)) (hp:Hp),BkE ⟨n,tm,hp,H⟩ [((1,1),b1)]:=fun n tm hp=>by simp[BkE,z4x,push,hb1]
 refine z0k Tryz.func82 (by kernel_rfl) rfl (by simp) ?_
 dsimp only[Tryz.f82]
 repeat' (first|(apply z07;(first|refine zaz (by decide) rfl ?_|refine zft (et:=3) (a:=first) (v:=z2w 0) (py:=I .i64 first) (q:=([]:List ((Int) × D))) (by kernel_rfl) ze1 rfl rfl zdp rfl rfl rfl ?_|refine z0r ?_| (apply z0g;(refine z0a z16 ?_))|(apply z2o;(refine zet rfl rfl rfl rfl rfl rfl rfl rfl rfl (by decide) ?_))))|(apply z08;(first|refine z0p ?_|apply z09))|(apply z05;(first|apply z06|apply z00|apply z01)))
 refine z2p 24 1000 ?_
 refine z4m 10 0 1001 4 1 rfl rfl rfl rfl ?_
 refine z4m 10 1 1002 39 1 rfl rfl rfl rfl ?_
 generalize hres:exL fin edg lim.toNat (lim.toNat+1) 0 [first] ⟨[],[]⟩=res
 refine z1f ?_
 refine z0d (z25 (fun q:Nat × List (Int) × Au=>⟨128,[(1,.fn (.func 83) [] [.ptr (1,1) 0]),(2,.fn (.func 84) [] [.ptr (1,1) 0]),(3,I .i64 lim),(8,.ptr (0,8) 0),(10,.ptr (0,10) 0),(11,.ref (0,20)),(12,.ref (0,1000)),(13,I .i64 (q.1:Nat))],[(20,mpI q.2.1),(1000,.row 3 1 (q.2.1.map icc)),(10,.box [.ref (0,1001),.ref (0,1002)]),(1001,.row 4 1 (q.2.2.F.map boc)),(1002,.row 39 1 (q.2.2.A.map z71)),(8,.box [.d (.lit z4d),.d (.lit z4d)])],H⟩) (fun q=>q.1≤q.2.1.length∧1≤q.2.1.length∧q.2.1.length≤lim.toNat∧q.2.2.F.length=q.1∧q.2.2.A.length=q.1∧(∀ x∈q.2.1,ok x)∧exL fin edg lim.toNat (lim.toNat+1-q.1) q.1 q.2.1 q.2.2=res) (fun q=>lim.toNat+1-q.1) ?_ (0,[first],⟨[],[]⟩) ⟨zAf _,zAj _,by simp only[zAn];omega,rfl,rfl,fun x hx=>by rw[zAq] at hx;rw[hx];exact hok0,hres⟩) rfl rfl
 rintro⟨i,ks,⟨F,A⟩⟩ ⟨i1,i2,i3,i4,i5,i7,i6⟩ ih
 simp only at i1 i2 i3 i4 i5 i6 i7 ih ⊢
 by_cases hlt:i<ks.length
 · obtain⟨k,hk⟩:∃ k,ks[i]? =some k:=⟨_,zA0 hlt⟩
   obtain⟨n,hn⟩:∃ n,lim.toNat+1-i=n+1:=⟨lim.toNat-i,by omega⟩
   rw[hn,exL,hk] at i6
   simp only at i6
   have hok:=i7 k (zA2 hk)
   have hff:=hfin k hok
   have hee:=hedg k hok
   obtain⟨⟨hE1,hE2⟩,hE3⟩:=hE k hok
   generalize edg k=es at *
   generalize fin k=fb at *
   repeat' (first|(apply z07;(first|refine z0r ?_| (apply z0b;(refine z02 (z13 (u:=z2w k) hk) rfl rfl ?_))|(apply z0m;(refine z02 (z3z rfl) rfl rfl ?_))|(apply z11;(first|refine z02 (z6v rfl) rfl rfl ?_| refine z02 (z1k rfl) rfl rfl ?_))|(apply z0s;(refine zvq (first:=[]) (cap:=[.ptr (1,1) 0]) (ps:=[I .i64 k]) hee rfl rfl (hb _ _ _) (by decide) ?_))))|(apply z08;(first|refine z0p ?_|apply z09))|(apply z05;(first|apply z06|apply z00|apply z04|apply z01|refine z0f (fun _=>?_) (fun _=>?_)| refine z0l ?_)))
   all_goals try (exfalso;simp only[zA4] at *;omega)
   refine z2x 14 1003 38 3 rfl rfl rfl ?_
   refine z1f ?_
   refine z0d (z25 (fun q:Nat × List (Int) × List Arc=>⟨128,[(1,.fn (.func 83) [] [.ptr (1,1) 0]),(2,.fn (.func 84) [] [.ptr (1,1) 0]),(3,I .i64 lim),(8,.ptr (0,8) 0),(10,.ptr (0,10) 0),(11,.ref (0,20)),(12,.ref (0,1000)),(13,I .i64 (i:Nat)),(14,.ref (0,1003)),(36,.d (.slice (es.map z3m))),(37,I .i64 es.length),(38,I .i64 (q.1:Nat))],[(20,mpI q.2.1),(1000,.row 3 1 (q.2.1.map icc)),(1003,.row 38 3 (q.2.2.map z3m)),(10,.box [.ref (0,1001),.ref (0,1002)]),(1001,.row 4 1 (F.map boc)),(1002,.row 39 1 (A.map z71)),(8,.box [.d (.lit z4d),.d (.lit z4d)])],H⟩) (fun q=>q.1≤es.length∧q.2.2.length≤q.1∧q.2.1.length≤ks.length+q.1∧q.2.1[i]? =some k∧(∀ y∈q.2.2,0≤y.2.1∧y.2.1≤1114111)∧(∀ x∈q.2.1,ok x)∧(es.drop q.1).foldl z6o q.2=es.foldl z6o (ks,[])) (fun q=>es.length-q.1) ?_ (0,ks,[]) ⟨zAf _,zAj _,zAj _,hk,by simp,i7,rfl⟩) rfl rfl
   rintro⟨j,ks2,arcs⟩ ⟨j1,j2,j3,j4,j5,j7,j6⟩ ihj
   simp only at j1 j2 j3 j4 j5 j6 j7 ihj ⊢
   by_cases hjl:j<es.length
   · exact zD2
   · obtain rfl:j=es.length:=by omega
     rw[zAs,List.foldl_nil] at j6
     rw[← j6] at i6
     simp only at i6
     have hi2:=(zA1.1 j4).1
     refine z2g 1003 rfl ?_
     by_cases hlim:lim.toNat<ks2.length
     · exact zD33
     · rw[zAy hlim] at i6
       have ih':=ih (i+1,ks2,⟨F++[fb],A++[arcs]⟩) ⟨by simp only;omega,by simp only;omega,by simp only;omega,by simp[i4],by simp[i5],j7,by rw[← i6];simp only;rw[show lim.toNat+1-(i+1)=n by omega]⟩ (by simp only;omega)
       simp only at ih'
       repeat' (first|(apply z07;(first|refine z0r ?_| (apply z0b;(refine z02 z1i rfl rfl ?_))|(apply z0e;(refine z02 z0q rfl rfl ?_))|(apply z0t;(refine z02 (z0u z0x) rfl rfl ?_))|(apply z11;(first|refine z02 (z1t rfl) rfl rfl ?_| refine z3w (g:=z71) arcs rfl ?_))|(apply z0c;(refine z22 ?_))|(apply z10;(refine z23 ?_))|(apply z2o;(refine z2s rfl ?_))))|(apply z08;(first|refine z0p ?_|apply z09))|(apply z05;(first|apply z06|apply z00|apply z04|apply z01|apply z2b|apply z03|refine z0f (fun _=>?_) (fun _=>?_)| refine z0l ?_))|(apply z2c;(first|(apply z0v;refine z1h mix ?_)|refine z2e ?_| (apply z0j;(first|refine z0h (z13 (u:=z2w k) j4) rfl rfl ?_| refine z0h z1i rfl rfl ?_))|(apply z0z;(refine z0h z0q rfl rfl ?_))|(apply z0o;(refine z0h (z2m rfl (by simp only[zA4];omega)) rfl rfl ?_))|(apply z6u;(refine zbm (g:=boc) (by first|exact rfl|exact⟨_,rfl,rfl,rfl⟩) rfl rfl fb rfl rfl rfl rfl rfl rfl rfl (by decide) (by omega) ?_))|(apply z1j;(refine zvy (first:=[]) (cap:=[.ptr (1,1) 0]) (ps:=[I .i64 k]) hff (by first|exact rfl|exact⟨_,rfl,rfl,rfl⟩) rfl rfl (hb _ _ _) (by decide) ?_))|(apply z1q;(refine zcb (by first|exact rfl|exact⟨_,rfl,rfl,rfl⟩) rfl rfl rfl rfl rfl ?_))|(apply za4;(refine zg3 rfl ?_)))))
       all_goals exact zD102
 · exact zD28
theorem wu8 (x:Int):IntKind.u8.wrap x=x % 256:=by
 unfold IntKind.wrap
 simp[IntKind.bits,IntKind.signed]
theorem zvk (n:Int) (h:0≤n):z0y Tryz.prog 113 [I .i64 n] (.d (.slice ((z74 n).map by8))):=by
 refine z1r fun H=>?_
 have w1:IntKind.u8.wrap (zoa .i64 n 24)=n / 16777216 % 256:=by rw[zdo h (by decide),wu8];rfl
 have w2:IntKind.u8.wrap (zoa .i64 n 16)=n / 65536 % 256:=by rw[zdo h (by decide),wu8];rfl
 have w3:IntKind.u8.wrap (zoa .i64 n 8)=n / 256 % 256:=by rw[zdo h (by decide),wu8];rfl
 have w4:=wu8 n
 refine z0k Tryz.func113 (by kernel_rfl) rfl (by simp) ?_
 dsimp only[Tryz.f113]
 repeat' (first|(apply z07;(first|refine z0r ?_| (apply z0t;(refine z02 (z9b (by omega)) rfl rfl ?_))|(apply z2o;(refine z2s rfl ?_))|(apply z6l;(first|refine z02 (zgj rfl rfl w4) rfl rfl ?_| refine z02 (zgj rfl rfl w3) rfl rfl ?_| refine z02 (zgj rfl rfl w2) rfl rfl ?_| refine z02 (zgj rfl rfl w1) rfl rfl ?_))))|(apply z08;(first|refine z0p ?_|apply z09))|(apply z05;(first|apply z06|apply z00)))
 all_goals exact z0n Tryz.func113 _ z19 ⟨rfl,rfl⟩
def znc (xs:List Int):Blk:=if xs=[] then .gone else .row 3 1 (xs.map icc)
def zjv (j:Nat) (xs:List Int):PV:=if xs=[] then .d (.lit z4d) else .ref (0,5000+j)
def inn:Nat→List (List Int)→Hp
 | _,[]=>[]
 | j,xs::r=>(5000+j,znc xs)::inn (j+1) r
def cel:Nat→List (List Int)→List PV
 | _,[]=>[]
 | j,xs::r=>zjv j xs::cel (j+1) r
theorem z5g:∀ (xss:List (List Int)) (j s:Nat),Ab.look (inn j xss) s=if 5000+j≤s then (xss[s-(5000+j)]?).map znc else none
 | [],j,s=>by simp[inn,Ab.look]
 | xs::r,j,s=>by
  rw[inn,Ab.look,z5g r (j+1) s]
  by_cases h:5000+j=s
  · rw[zAz h,zAz (by omega),← h,Nat.sub_self];rfl
  · exact zD89
theorem zdn (xss:List (List Int)) (j:Nat) {s:Nat} (h:s<5000):Ab.look (inn j xss) s=none:=by rw[z5g,zAy (by omega)]
theorem zao:∀ (xss:List (List Int)) (j:Nat),(cel j xss).length=xss.length
 | [],_=>rfl
 | xs::r,j=>by rw[cel,zAk,zao r,zAk]
theorem z7e:∀ (xss:List (List Int)) (j i:Nat),(cel j xss)[i]? =(xss[i]?).map (zjv (j+i))
 | [],j,i=>by simp[cel]
 | xs::r,j,0=>by simp[cel]
 | xs::r,j,i+1=>by
  rw[cel,List.getElem?_cons_succ,List.getElem?_cons_succ,z7e r (j+1) i,show j+1+i=j+(i+1) by omega]
theorem zrj (n:Nm) (xs:List Int):(znc xs).says n=false:=by rw[znc];split <;> rfl
theorem zl8 (a b:Nat) (xs:List Int):(znc xs).ren a b=znc xs:=by rw[znc];split <;> rfl
theorem zcg {d:Nat} (h:d<5000):∀ (xss:List (List Int)) (j:Nat),z18 d (inn j xss)=true
 | [],_=>rfl
 | xs::r,j=>by
  rw[inn,z18,zcg h r (j+1),zrj]
  have:¬ 5000+j=d:=by omega
  simp[this]
theorem ze9 {d j:Nat} {xs:List Int} (h:d<5000):(zjv j xs).says (0,d)=false:=by
 rw[zjv]
 split
 · rfl
 · simp[PV.says];omega
theorem z9k {d:Nat} (h:d<5000):∀ (xss:List (List Int)) (j:Nat),PV.saysL (0,d) (cel j xss)=false
 | [],_=>rfl
 | xs::r,j=>by rw[cel,PV.saysL,z9k h r,ze9 h];rfl
theorem z8b {n:Nm} {p:PV}:∀ {cs:List PV} {i:Nat},PV.saysL n cs=false→p.says n=false→PV.saysL n (cs.set i p)=false
 | [],i,h,hp=>by simpa using h
 | c::cs,0,h,hp=>by
  exact zD123
 | c::cs,i+1,h,hp=>by
  simp only[PV.saysL,Bool.or_eq_false_iff] at h
  simp only[List.set_cons_succ,PV.saysL,Bool.or_eq_false_iff]
  exact⟨h.1,z8b h.2 hp⟩
section
variable {P:Program} {f:FuncId} {R:z42} {k:List Go.Item} {n:Nat} {tm tm':List (Nat × PV)} {hp:Hp} {up:Hf}
theorem PV.ren_id {a b:Nat} {p:PV} (ha:p.says (0,a)=false) (hb:p.says (0,b)=false):p.ren a b=p:=by
 cases p with
 | ref q=>simp only[PV.says,beq_eq_false_iff_ne] at ha hb;simp[PV.ren,ha,hb]
 | ptr q o=>simp only[PV.says,beq_eq_false_iff_ne] at ha hb;simp[PV.ren,ha,hb]
 | _=>simp only[PV.ren];rw[zAy];rw[hb];decide
theorem zfs {a b:Nat}:∀ {tm:List (Nat × PV)},z3c (0,a) tm=false→z3c (0,b) tm=false→z9g a b tm=tm
 | [],_,_=>rfl
 | (t,p)::r,ha,hb=>by
  simp only[z3c,Bool.or_eq_false_iff] at ha hb
  rw[z9g,PV.ren_id ha.1 hb.1,zfs ha.2 hb.2]
theorem zmu (m:Nat) {pre T:Hp} (hT:hp.drop m=T) (ht:y17 tm' tm) (h1:ztr pre (hp.take m)) (h2:((hp.take m).all fun q=>decide (q.1<5000))=true) (hl:∀ s,s<5000→Ab.look T s=none) (h:Run P f R k ⟨n,tm',pre++T,up⟩):Run P f R k ⟨n,tm,hp,up⟩:=by
 refine zbk (fun t p h=>(y3u ht).get h) (fun s b hb=>?_) h
 have lapp:∀ (A B:Hp),Ab.look (A++B) s=(Ab.look A s).or (Ab.look B s):=fun A B=>by
  exact zD45
 rw[← List.take_append_drop m hp,hT,lapp]
 rw[lapp] at hb
 cases hs:Ab.look pre s with
 | some c =>
  rw[hs] at hb
  simp at hb;subst hb
  rw[(zxs h1).get hs];rfl
 | none =>
  rw[hs] at hb
  have hb':Ab.look T s=some b:=by simpa using hb
  have:Ab.look (hp.take m) s=none:=by
   have hs5:¬ s<5000:=fun h=>by rw[hl s h] at hb';cases hb'
   revert h2
   generalize hp.take m=A
   intro h2
   induction A with
   | nil=>rfl
   | cons q r ih =>
    obtain⟨kk,c⟩:=q
    simp only[List.all_cons,zA7,zA3] at h2
    rw[Ab.look,zAy (by omega),ih h2.2]
  rw[this,hb'];rfl
theorem zzb {xss:List (List Int)} {i:Nat} {ys:List Int} (hi:i<xss.length) (j:Nat):(cel j xss).set i (zjv (j+i) ys)=cel j (xss.set i ys):=by
 apply List.ext_getElem?
 intro s
 by_cases h:i=s
 · subst h
   rw[zAp (by rw[zao];exact hi),z7e,zAp hi];rfl
 · rw[List.getElem?_set_ne h,z7e,z7e,List.getElem?_set_ne h]
theorem y1d {i:Nat} {xss:List (List Int)} {xs:List Int} (hi:xss[i]? =some xs) (hne:xs≠[]) (pre:Hp) (hs1:z3c (0,5000+i) tm=false) (hs2:z3c (0,1001) tm=false)
 (hp1:∀ s b,Ab.look pre s=some b→s<5000∧s≠1000∧s≠1001∧b.ren (5000+i) 1001=b)
 (h:Run P f R k ⟨n,tm,(1001,.row 3 1 (xs.map icc))::(1000,.rowp 94 ((cel 0 xss).set i (.ref (0,1001))))::(pre++inn 0 (xss.set i [])),up⟩):Run P f R k ⟨n,tm,(1000,.rowp 94 (cel 0 xss))::(pre++inn 0 xss),up⟩:=by
 have hil:=(zA1.1 hi).1
 have lapp:∀ (A B:Hp) (s:Nat),Ab.look (A++B) s=(Ab.look A s).or (Ab.look B s):=fun A B s=>by
  exact zD45
 have hq:Ab.look ((1000,.rowp 94 (cel 0 xss))::(pre++inn 0 xss)) (5000+i)=some (.row 3 1 (xs.map icc)):=by
  rw[Ab.look,zAy (by omega),lapp]
  have:Ab.look pre (5000+i)=none:=by
   exact zD100
  rw[this,z5g,zAz (by omega),show 5000+i-(5000+0)=i by omega,hi]
  simp[znc,hne]
 refine ztu (5000+i) 1001 hq (by simp[Blk.says];omega) ?_
 rw[zfs hs1 hs2]
 refine zbk (tm':=tm) (fun _ _ h=>h) (fun s b hb=>?_) h
 rw[Ab.look] at hb ⊢
 split at hb
 · rename_i h1;rw[zAz h1];exact hb
 rename_i h1
 rw[zAy h1,Ab.look]
 rw[Ab.look] at hb
 split at hb
 · rename_i h2
   subst h2
   rw[zAy (by omega),z5w,Ab.look,zAz rfl]
   simp only[Option.map_some,Blk.ren]
   rw[← hb]
   congr 2
   apply List.ext_getElem?
   intro s
   have hrl:∀ cs:List PV,(zod (5000+i) 1001 cs)[s]? =(cs[s]?).map (PV.ren (5000+i) 1001):=fun cs=>z9u _ _ cs s
   rw[hrl]
   by_cases h:i=s
   · subst h
     rw[zAp (by rw[zao];exact hil),z7e,hi]
     simp[zjv,hne,PV.ren]
   · rw[List.getElem?_set_ne h,z7e]
     cases hx:xss[s]? with
     | none=>rfl
     | some ys =>
      simp only[Option.map_some]
      congr 1
      exact PV.ren_id (by rw[zjv];split;· rfl
                          · simp[PV.says];omega) (ze9 (by omega))
 · rename_i h2
   by_cases h3:5000+i=s
   · rw[zAz h3]
     subst h3
     rw[lapp] at hb
     have:Ab.look pre (5000+i)=none:=by
      exact zD100
     rw[this,z5g,zAz (by omega),show 5000+i-(5000+0)=i by omega,zAp hil] at hb
     exact hb
   · rw[zAy h3,z5w,Ab.look,zAy h2,lapp]
     rw[lapp] at hb
     cases hh:Ab.look pre s with
     | some c =>
      rw[hh] at hb
      simp at hb;subst hb
      simp[(hp1 _ _ hh).2.2.2]
     | none =>
      rw[hh] at hb
      have hb':Ab.look (inn 0 (xss.set i [])) s=some b:=by simpa using hb
      rw[z5g] at hb'
      simp only[Option.none_or]
      rw[z5g]
      split at hb'
      · rename_i h5
        rw[zAz h5]
        rw[List.getElem?_set_ne (by omega)] at hb'
        exact zD90
      · cases hb'
theorem zrg (a:Nat) {i:Nat} {xss:List (List Int)} {ys:List Int} (hi:i<xss.length) (hne:ys≠[]) (ha:a<5000) (pre:Hp) (hs1:z3c (0,5000+i) tm=false) (hs2:z3c (0,a) tm=false) (ha0:a≠1000)
 (hp1:∀ s b,Ab.look pre s=some b→s<5000∧s≠1000∧s≠a∧b.ren a (5000+i)=b)
 (h:Run P f R k ⟨n,tm,(1000,.rowp 94 (cel 0 (xss.set i ys)))::(pre++inn 0 (xss.set i ys)),up⟩):Run P f R k ⟨n,tm,(a,.row 3 1 (ys.map icc))::(1000,.rowp 94 ((cel 0 xss).set i (.ref (0,a))))::(pre++inn 0 (xss.set i [])),up⟩:=by
 have lapp:∀ (A B:Hp) (s:Nat),Ab.look (A++B) s=(Ab.look A s).or (Ab.look B s):=fun A B s=>by
  exact zD45
 refine ztu a (5000+i) (q:=.row 3 1 (ys.map icc)) (by simp[Ab.look]) (by simp[Blk.says];omega) ?_
 rw[zfs hs2 hs1]
 refine zbk (tm':=tm) (fun _ _ h=>h) (fun s b hb=>?_) h
 rw[Ab.look] at hb
 split at hb
 · rename_i h2
   subst h2
   rw[Ab.look,zAy (by omega),Ab.look,zAy ha0,z5w,Ab.look,zAy ha0,Ab.look,zAz rfl]
   simp only[Option.map_some,Blk.ren]
   rw[← hb,← zzb hi]
   congr 2
   apply List.ext_getElem?
   intro s
   have hrl:∀ cs:List PV,(zod a (5000+i) cs)[s]? =(cs[s]?).map (PV.ren a (5000+i)):=fun cs=>z9u _ _ cs s
   rw[hrl]
   by_cases h:i=s
   · subst h
     rw[zAp (by rw[zao];exact hi),zAp (by rw[zao];exact hi)]
     simp[zjv,hne,PV.ren]
   · rw[List.getElem?_set_ne h,List.getElem?_set_ne h,z7e]
     cases hx:xss[s]? with
     | none=>rfl
     | some ys =>
      simp only[Option.map_some]
      congr 1
      exact PV.ren_id (ze9 ha) (by rw[zjv];split;· rfl
                                   · simp[PV.says];omega)
 · rename_i h2
   by_cases h3:5000+i=s
   · subst h3
     rw[Ab.look,zAz rfl]
     rw[lapp] at hb
     have:Ab.look pre (5000+i)=none:=by
      exact zD100
     rw[this,z5g,zAz (by omega),show 5000+i-(5000+0)=i by omega,zAp hi] at hb
     simpa[znc,hne] using hb
   · rw[Ab.look,zAy h3]
     rw[lapp] at hb
     have hsa:s≠a:=by
      rintro rfl
      cases hh:Ab.look pre s with
      | some c=>exact(hp1 _ _ hh).2.2.1 rfl
      | none=>rw[hh,zdn _ _ ha] at hb;cases hb
     rw[Ab.look,zAy (Ne.symm hsa),z5w,Ab.look,zAy (Ne.symm hsa),Ab.look,zAy h2,lapp]
     cases hh:Ab.look pre s with
     | some c =>
      rw[hh] at hb
      simp at hb;subst hb
      simp[(hp1 _ _ hh).2.2.2]
     | none =>
      rw[hh] at hb
      have hb':Ab.look (inn 0 (xss.set i ys)) s=some b:=by simpa using hb
      rw[z5g] at hb'
      simp only[Option.none_or]
      rw[z5g]
      split at hb'
      · rename_i h5
        rw[zAz h5]
        rw[List.getElem?_set_ne (by omega)] at hb' ⊢
        exact zD90
      · cases hb'
def zxj (xs:List Int):D:=if xs=[] then .lit z4d else .slice (xs.map icc)
def znp (m:Nat):Nat→List (List Int)→List PV
 | _,[]=>[]
 | j,xs::r=>(if j<m then .d (zxj xs) else zjv j xs)::znp m (j+1) r
def zob (m:Nat):Nat→List (List Int)→Hp
 | _,[]=>[]
 | j,xs::r=>(5000+j,if j<m then .gone else znc xs)::zob m (j+1) r
theorem z7k (m:Nat):∀ (xss:List (List Int)) (j i:Nat),(znp m j xss)[i]? =(xss[i]?).map fun xs=>if j+i<m then .d (zxj xs) else zjv (j+i) xs
 | [],j,i=>by simp[znp]
 | xs::r,j,0=>by simp[znp]
 | xs::r,j,i+1=>by
  rw[znp,List.getElem?_cons_succ,List.getElem?_cons_succ,z7k m r (j+1) i,show j+1+i=j+(i+1) by omega]
theorem z6w (m:Nat):∀ (xss:List (List Int)) (j s:Nat),Ab.look (zob m j xss) s=if 5000+j≤s then (xss[s-(5000+j)]?).map fun xs=>if s-5000<m then .gone else znc xs else none
 | [],j,s=>by simp[zob,Ab.look]
 | xs::r,j,s=>by
  rw[zob,Ab.look,z6w m r (j+1) s]
  by_cases h:5000+j=s
  · subst h;simp
  · exact zD89
theorem zmh {m:Nm} {x:D}:∀ {tm:List (Nat × PV)},z3c m tm=false→zi5 m x tm=tm
 | [],_=>rfl
 | (t,p)::r,h=>by
  simp only[z3c,Bool.or_eq_false_iff] at h
  rw[zi5,zmh h.2]
  congr 2
  cases p with
  | ref q=>have:=h.1;simp only[PV.says,beq_eq_false_iff_ne] at this;simp[PV.frz,this]
  | _=>rfl
theorem y15 (m:Nat) {xss:List (List Int)} (hm:m<xss.length) (pre:Hp) (hs1:z3c (0,5000+m) tm=false)
 (hp1:∀ s b,Ab.look pre s=some b→s<5000∧s≠1000∧∀ x,b.frz (0,5000+m) x=b)
 (h:Run P f R k ⟨n,tm,(1000,.rowp 94 (znp (m+1) 0 xss))::(pre++zob (m+1) 0 xss),up⟩):Run P f R k ⟨n,tm,(1000,.rowp 94 (znp m 0 xss))::(pre++zob m 0 xss),up⟩:=by
 have lapp:∀ (A B:Hp) (s:Nat),Ab.look (A++B) s=(Ab.look A s).or (Ab.look B s):=fun A B s=>by
  exact zD45
 obtain⟨xs,hi⟩:∃ xs,xss[m]? =some xs:=⟨_,zA0 hm⟩
 have hpn:Ab.look pre (5000+m)=none:=by
  cases hh:Ab.look pre (5000+m) with
  | none=>rfl
  | some c=>have:=(hp1 _ _ hh).1;omega
 by_cases hne:xs=[]
 · subst hne
   have e1:znp (m+1) 0 xss=znp m 0 xss:=by
    apply List.ext_getElem?
    intro s
    rw[z7k,z7k]
    by_cases hs:s=m
    · subst hs
      rw[hi]
      simp[zxj,zjv]
    · cases hx:xss[s]? with
      | none=>rfl
      | some ys =>
       simp only[Option.map_some,Nat.zero_add]
       congr 1
       by_cases h2:s<m
       · rw[zAz (by omega),zAz h2]
       · rw[zAy (by omega),zAy h2]
   rw[e1] at h
   refine zbk (tm':=tm) (fun _ _ h=>h) (fun s b hb=>?_) h
   rw[Ab.look] at hb ⊢
   split at hb
   · rename_i h1;rw[zAz h1];exact hb
   · rename_i h1
     rw[zAy h1,lapp]
     rw[lapp] at hb
     cases hh:Ab.look pre s with
     | some c=>rw[hh] at hb;exact hb
     | none =>
      rw[hh] at hb
      simp only[Option.none_or] at hb ⊢
      rw[z6w] at hb ⊢
      split at hb
      · rename_i h5
        rw[zAz h5]
        by_cases hs:s-(5000+0)=m
        · rw[hs,hi] at hb ⊢
          simp only[Option.map_some,Nat.lt_succ_self,if_true,Nat.lt_irrefl,if_false] at hb ⊢
          rw[← hb];rfl
        · cases hx:xss[s-(5000+0)]? with
          | none=>rw[hx] at hb;cases hb
          | some ys =>
           rw[hx] at hb
           simp only[Option.map_some] at hb ⊢
           rw[← hb]
           by_cases h2:s-5000<m
           · rw[zAz h2,zAz (show s-5000<m+1 by omega)]
           · rw[zAy h2,zAy (show ¬ s-5000<m+1 by omega)]
      · cases hb
 · have hq:Ab.look ((1000,.rowp 94 (znp m 0 xss))::(pre++zob m 0 xss)) (5000+m)=some (.row 3 1 (xs.map icc)):=by
    rw[Ab.look,zAy (by omega),lapp,hpn,z6w,zAz (by omega),show 5000+m-(5000+0)=m by omega,hi]
    simp only[Option.map_some,Option.none_or]
    rw[zAy (by omega),znc,zAy hne]
   refine z2g (5000+m) hq ?_
   rw[zmh hs1]
   refine zbk (tm':=tm) (fun _ _ h=>h) (fun s b hb=>?_) h
   rw[Ab.look] at hb ⊢
   split at hb
   · rename_i h2
     subst h2
     rw[zAy (by omega),z8q,Ab.look,zAz rfl]
     simp only[Option.map_some,Blk.frz]
     rw[← hb]
     congr 2
     apply List.ext_getElem?
     intro s
     rw[zch,z7k,z7k]
     cases hx:xss[s]? with
     | none=>rfl
     | some ys =>
      simp only[Option.map_some,Nat.zero_add]
      congr 1
      by_cases hs:s=m
      · subst hs
        rw[hi] at hx;cases hx
        rw[zAy (by omega),zAz (by omega),zjv,zAy hne,zxj,zAy hne]
        simp[PV.frz]
      · by_cases h2:s<m
        · rw[zAz h2,zAz (show s<m+1 by omega)];rfl
        · rw[zAy h2,zAy (show ¬ s<m+1 by omega),zjv]
          split
          · rfl
          · simp[PV.frz];omega
   · rename_i h2
     rw[lapp] at hb
     by_cases h3:5000+m=s
     · rw[zAz h3]
       subst h3
       rw[hpn,z6w,zAz (by omega),show 5000+m-(5000+0)=m by omega,hi] at hb
       simpa using hb
     · rw[zAy h3,z8q,Ab.look,zAy h2,lapp]
       cases hh:Ab.look pre s with
       | some c =>
        rw[hh] at hb
        simp at hb;subst hb
        simp[(hp1 _ _ hh).2.2]
       | none =>
        rw[hh] at hb
        have hb':Ab.look (zob (m+1) 0 xss) s=some b:=by simpa using hb
        rw[z6w] at hb'
        simp only[Option.none_or]
        rw[z6w]
        split at hb'
        · rename_i h5
          rw[zAz h5]
          cases hx:xss[s-(5000+0)]? with
          | none=>rw[hx] at hb';cases hb'
          | some ys =>
           rw[hx] at hb'
           simp only[Option.map_some] at hb' ⊢
           rw[← hb']
           by_cases h2:s-5000<m
           · rw[zAz h2,zAz (show s-5000<m+1 by omega)];rfl
           · rw[zAy h2,zAy (show ¬ s-5000<m+1 by omega)]
             rw[znc];split <;> rfl
        · cases hb'
theorem zvb {xss:List (List Int)} (pre:Hp) (hs1:∀ m,z3c (0,5000+m) tm=false) (hp1:∀ m s b,Ab.look pre s=some b→s<5000∧s≠1000∧∀ x,b.frz (0,5000+m) x=b)
 (h:Run P f R k ⟨n,tm,(1000,.row 94 1 (xss.map fun xs=>[.slice (xs.map icc)]))::pre,up⟩):Run P f R k ⟨n,tm,(1000,.rowp 94 (cel 0 xss))::(pre++inn 0 xss),up⟩:=by
 have lapp:∀ (A B:Hp) (s:Nat),Ab.look (A++B) s=(Ab.look A s).or (Ab.look B s):=fun A B s=>by
  exact zD45
 have key:∀ d m,m+d=xss.length→Run P f R k ⟨n,tm,(1000,.rowp 94 (znp m 0 xss))::(pre++zob m 0 xss),up⟩:=fun d=>by
  induction d with
  | zero =>
   intro m hm
   have e1:znp m 0 xss=(xss.map zxj).map .d:=by
    apply List.ext_getElem?
    intro s
    rw[z7k,List.map_map,zAd]
    cases hx:xss[s]? with
    | none=>rfl
    | some ys =>
     have:=(zA1.1 hx).1
     simp only[Option.map_some]
     rw[zAz (by omega)];rfl
   rw[e1]
   refine zz3 (e:=94) 1000 (xs:=xss.map zxj) (xs':=xss.map fun xs=>.slice (xs.map icc)) (fun i z hz=>?_) (by simp) (by simp[Ab.look]) ?_
   · rw[zAd] at hz ⊢
     cases hx:xss[i]? with
     | none=>rw[hx] at hz;cases hz
     | some ys =>
      rw[hx] at hz;simp at hz;subst hz
      by_cases hy:ys=[]
      · subst hy;right;exact⟨by simp[zxj],rfl⟩
      · left;simp[zxj,hy]
   refine zbk (tm':=tm) (fun _ _ h=>h) (fun s b hb=>?_) h
   rw[Ab.look] at hb ⊢
   split at hb
   · rename_i h1;rw[zAz h1,← hb,List.map_map];rfl
   · rename_i h1
     rw[zAy h1,Ab.look,zAy h1,lapp,hb];rfl
  | succ d ih =>
   intro m hm
   exact y15 m (by omega) pre (hs1 m) (hp1 m) (ih (m+1) (by omega))
 have e0:znp 0 0 xss=cel 0 xss:=by
  apply List.ext_getElem?
  intro s
  rw[z7k,z7e]
  cases hx:xss[s]? with
  | none=>rfl
  | some ys=>simp
 have e1:zob 0 0 xss=inn 0 xss:=by
  have:∀ (l:List (List Int)) (j:Nat),zob 0 j l=inn j l:=fun l=>by
   induction l with
   | nil=>intro j;rfl
   | cons x r ih=>intro j;rw[zob,inn,ih];simp
  exact this xss 0
 have:=key xss.length 0 (by omega)
 rwa [e0,e1] at this
theorem y0d {hp':Hp} (hh:∀ s b,Ab.look hp' s=some b→b=.gone∨Ab.look hp s=some b) (h:Run P f R k ⟨n,tm,hp',up⟩):Run P f R k ⟨n,tm,hp,up⟩:=by
 refine Run.le (s:=⟨n,tm,hp',up⟩) (fun β own a w hr=>⟨β,rfl,hr.size,hr.defers,hr.tm,?_⟩) h
 have key:∀ m b,z14 (push hp' up) m=some b→b=.gone∨z14 (push hp up) m=some b:=by
  rintro⟨k,s⟩ b hq
  cases k with
  | zero=>exact hh s b hq
  | succ k=>exact .inr hq
 refine⟨fun m b hb=>?_,fun m1 m2 b1 b2 h1 h2 l1 l2=>?_,hr.heap.lt⟩
 · rcases key m b hb with rfl|h1
   · exact .gone _
   · exact hr.heap.blk m b h1
 · rcases key m1 b1 h1 with rfl|g1
   · cases l1
   rcases key m2 b2 h2 with rfl|g2
   · cases l2
   exact hr.heap.inj m1 m2 b1 b2 g1 g2 l1 l2
theorem z9n (A B:Hp) (s:Nat):Ab.look (A++B) s=(Ab.look A s).or (Ab.look B s):=by
 exact zD45
theorem y1l {b:Blk} {pre T:Hp} (hn:Ab.look pre 1000=none) (h:Run P f R k ⟨n,tm,(1000,b)::(pre++T),up⟩):Run P f R k ⟨n,tm,pre++(1000,b)::T,up⟩:=by
 refine zbk (tm':=tm) (fun _ _ h=>h) (fun s c hc=>?_) h
 rw[z9n,Ab.look]
 rw[Ab.look] at hc
 split at hc
 · rename_i e;subst e;rw[hn,zAz rfl];exact hc
 · rename_i e;rw[zAy e];rw[z9n] at hc;exact hc
theorem y6h {b:Blk} {pre T:Hp} (hn:Ab.look pre 1000=none) (h:Run P f R k ⟨n,tm,pre++(1000,b)::T,up⟩):Run P f R k ⟨n,tm,(1000,b)::(pre++T),up⟩:=by
 refine zbk (tm':=tm) (fun _ _ h=>h) (fun s c hc=>?_) h
 rw[z9n,Ab.look] at hc
 rw[Ab.look]
 by_cases e:1000=s
 · subst e;rw[zAz rfl];rw[hn,zAz rfl] at hc;exact hc
 · rw[zAy e,z9n];rw[zAy e] at hc;exact hc
theorem zae {d:Nat} (m:Nat) (hT:z18 d (hp.drop m)=true) (h:(z18 d (hp.take m)&&z1o d tm)=true):(z18 d hp&&z1o d tm)=true:=by
 have:z18 d hp=(z18 d (hp.take m)&&z18 d (hp.drop m)):=by
  have key:∀ A B:Hp,z18 d (A++B)=(z18 d A&&z18 d B):=fun A B=>by
   induction A with
   | nil=>simp[z18]
   | cons q r ih=>obtain⟨kk,c⟩:=q;simp only[List.cons_append,z18,ih,Bool.and_assoc]
  rw[← key,List.take_append_drop]
 rw[this,hT,Bool.and_true];exact h
theorem zwa {d:Nat} {cs:List PV} {xss:List (List Int)} {j:Nat} (h:d<5000) (h2:d≠1000) (h3:PV.saysL (0,d) cs=false):z18 d ((1000,.rowp 94 cs)::inn j xss)=true:=by
 rw[z18,zcg h]
 simp[Blk.says,h3,Ne.symm h2]
theorem zqu {id:Nat} {ops:List Oper} {s0 s:St} {done:List Eff} {l:List Oper} {t:TypeId} {x y:Operand} {ty:TypeId} {pos:String} {aft:Array Edge} {gd:Option (Nat × Bool)} {fs:List Nat} (hmix:P.follows .mixedOrders=true)
 (hc:(decide (done.length≤ops.length)&&((ops.take done.length).length == done.length&&zbd (z9q [] (ops.take done.length)) [] done&&z7u (ops.take done.length) 0)&&z7u ops 0&&zcs (z9q [] ops) done.length ops.length)=true)
 (hf:done.flatMap (·.free)=fs) (hf2:(fs.all fun d=>z18 d s0.hp&&z1o d s0.tm)=true)
 (h:Ops P f R ops.toArray (⟨none,.store t x y,ty,pos,aft,gd⟩::l) k s):Tr P f R id ops k s0 done s (⟨none,.store t x y,ty,pos,aft,gd⟩::l):=zxi hmix (zrp hc hf hf2) h
theorem zxx (m:Nat):∀ j,cel j (List.replicate m [])=(List.replicate m (D.lit z4d)).map .d:=by
 induction m with
 | zero=>intro j;rfl
 | succ m ih=>intro j;rw[List.replicate_succ,cel,ih];rfl
theorem zzl {m j s:Nat} {b:Blk} (h:Ab.look (inn j (List.replicate m [])) s=some b):b=.gone:=by
 rw[z5g] at h
 split at h
 · rw[List.getElem?_replicate] at h
   split at h
   · simpa[znc] using h.symm
   · cases h
 · cases h
end
abbrev BX (F:List Bool) (A:List (List Arc)):Blk:=.box [.d (zkk F),.d (.slice (A.map z71))]
abbrev TMO (F:List Bool) (A:List (List Arc)) (i:Nat):List (Nat × PV):=[(1,.ptr (0,1) 0),(3,.ref (0,1000)),(20,.d (.slice (A.map z71))),(21,I .i64 A.length),(22,I .i64 (i:Nat))]
abbrev TMI (F:List Bool) (A:List (List Arc)) (l:List Arc) (i j:Nat):List (Nat × PV):=[(1,.ptr (0,1) 0),(3,.ref (0,1000)),(20,.d (.slice (A.map z71))),(21,I .i64 A.length),(22,I .i64 (i:Nat)),(4,I .i64 (i:Nat)),(27,.d (zbp l)),(28,I .i64 l.length),(29,I .i64 (j:Nat))]
theorem zs1 (F:List Bool) (A:List (List Arc)) (n:Nm):(BX F A).says n=false:=by simp[Blk.says,PV.saysL,PV.says]
theorem zru (F:List Bool) (A:List (List Arc)) (a b:Nat):(BX F A).ren a b=BX F A:=by simp[Blk.ren,zod,PV.ren,PV.says]
theorem zu8 {l:List Arc} {A:List (List Arc)} {i:Nat} (h:A[i]? =some l):((A.take i).map List.length).sum+l.length=((A.take (i+1)).map List.length).sum:=by
 rw[List.take_add_one,h];simp
theorem zxh (A:List (List Arc)) (i:Nat):((A.take i).map List.length).sum≤(A.map List.length).sum:=by
 conv=>rhs;rw[← List.take_append_drop i A]
 rw[List.map_append,List.sum_append];omega
theorem zqf (F:List Bool) (A:List (List Arc)) (hAF:A.length=F.length) (hr:∀ l∈A,l.length≤2000000∧∀ x∈l,0≤x.2.2∧x.2.2<F.length) (hlen:F.length≤4000000) (htot:(A.map List.length).sum≤100000000000):z0y Tryz.prog 56 [.d (auD ⟨F,A⟩)] (.d (zkk (z56 F A))):=by
 refine z1r fun H=>?_
 refine z0k Tryz.func56 (by kernel_rfl) rfl (by simp) ?_
 dsimp only[Tryz.f56]
 repeat' (first|(apply z07;(first|refine zy8 (xs:=(List.replicate F.length (D.lit z4d)).map fun x=>[x]) rfl rfl (by omega) (by simp only[zA4];omega) rfl rfl rfl (by decide) (by simp) ?_|refine z0r ?_| (apply z0b;(refine z02 z1i rfl rfl ?_))|(apply z0e;(refine z02 z0q rfl rfl ?_))|(apply z11;(refine z02 (z1k rfl) rfl rfl ?_))|(apply z1s;(refine z0a z3y ?_))))|(apply z08;(first|refine z0p ?_|apply z09))|(apply z05;(first|apply z06|apply z00|apply z01)))
 all_goals try (exfalso;omega)
 refine z2p 18 1000 ?_
 refine y3m 1000 (xs:=List.replicate F.length (D.lit z4d)) rfl ?_
 rw[← zxx F.length 0]
 refine z0d (tm':=TMO F A 0) (hp':=[(1,BX F A),(1000,.rowp 94 (cel 0 (List.replicate F.length [])))]) ?_ rfl rfl
 refine y0d (hp':=[(1,BX F A)]++(1000,.rowp 94 (cel 0 (List.replicate F.length [])))::inn 0 (List.replicate F.length [])) (fun s b hb=>?_) ?_
 · rw[z9n] at hb
   rw[Ab.look]
   by_cases h1:1=s
   · subst h1;right;rw[zAz rfl];simpa[Ab.look] using hb
   · rw[zAy h1]
     simp only[Ab.look,zAy h1,Option.none_or] at hb
     rw[Ab.look]
     by_cases h2:1000=s
     · rw[zAz h2] at hb ⊢;exact .inr hb
     · rw[zAy h2] at hb;exact .inl (zzl hb)
 refine z1f ?_
 refine z25 (fun q:Nat × List (List Int)=>⟨105,TMO F A q.1,[(1,BX F A)]++(1000,.rowp 94 (cel 0 q.2))::inn 0 q.2,H⟩) (fun q=>q.1≤A.length∧q.2.length=F.length∧(∀ xs∈q.2,xs.length≤((A.take q.1).map List.length).sum)∧zwc q.1 (A.drop q.1) q.2=zwc 0 A (List.replicate F.length [])) (fun q=>A.length-q.1) ?_ (0,List.replicate F.length []) ⟨zAf _,by simp,fun xs hx=>by rw[List.eq_of_mem_replicate hx];simp,rfl⟩
 rintro⟨i,xss0⟩ ⟨i1,i2,i3,i4⟩ ih
 simp only at i1 i2 i3 i4 ih ⊢
 by_cases hlt:i<A.length
 · obtain⟨l,hl⟩:∃ l,A[i]? =some l:=⟨_,zA0 hlt⟩
   obtain⟨l1,l2⟩:=hr l (zA2 hl)
   have ht1:=zu8 hl
   have ht2:=zxh A (i+1)
   rw[drop_cons hl,zwc] at i4
   repeat' (first|(apply z07;(first|refine z0r ?_| (apply z0b;(first|refine z02 z1i rfl rfl ?_| refine z02 z2r rfl rfl ?_))|(apply z0e;(refine z02 z0q rfl rfl ?_))|(apply z0m;(refine z02 (z1b (ys:=A.map z71) rfl (idx hl)) rfl rfl ?_))|(apply z11;(refine z02 (z1k rfl) rfl rfl ?_))))|(apply z08;(first|refine z0p ?_|apply z09))|(apply z05;(first|apply z06|apply z00|apply z04|apply z01|refine z0f (fun _=>?_) (fun _=>?_)| refine z0l ?_)))
   all_goals try (exfalso;omega)
   refine z1f ?_
   refine zmu (tm':=TMI F A l i 0) (pre:=[(1,BX F A),(1000,.rowp 94 (cel 0 xss0))]) (T:=inn 0 xss0) 2 rfl rfl rfl rfl (fun s h=>zdn _ _ h) ?_
   refine z25 (fun q:Nat × List (List Int)=>⟨105,TMI F A l i q.1,[(1,BX F A)]++(1000,.rowp 94 (cel 0 q.2))::inn 0 q.2,H⟩) (fun q=>q.1≤l.length∧q.2.length=F.length∧(∀ xs∈q.2,xs.length≤((A.take i).map List.length).sum+q.1)∧(l.drop q.1).foldl (zt0 i) q.2=l.foldl (zt0 i) xss0) (fun q=>l.length-q.1) ?_ (0,xss0) ⟨zAf _,i2,i3,rfl⟩
   rintro⟨j,xss⟩ ⟨j1,j2,j3,j4⟩ ihj
   simp only at j1 j2 j3 j4 ihj ⊢
   by_cases hj:j<l.length
   · obtain⟨x,hx⟩:∃ x,l[j]? =some x:=⟨_,zA0 hj⟩
     obtain⟨x1,x2⟩:=l2 x (zA2 hx)
     have hil:x.2.2.toNat<xss.length:=by omega
     obtain⟨xs,hxs⟩:∃ xs,xss[x.2.2.toNat]? =some xs:=⟨_,zA0 hil⟩
     have hxl:=j3 xs (zA2 hxs)
     rw[drop_cons hx,List.foldl_cons,zt0,List.getD,hxs,Option.getD_some] at j4
     have ihj':=ihj (j+1,xss.set x.2.2.toNat (xs++[((i:Nat):Int)])) ⟨by simp only;omega,by simp[j2],fun ys hy=>by
      rcases List.mem_or_eq_of_mem_set hy with h|h
      · have:=j3 ys h;simp only;omega
      · rw[h];simp only[zAa,zAn];omega,j4⟩ (by simp only;omega)
     have hcell:(cel 0 xss)[x.2.2.toNat]? =some (zjv (0+x.2.2.toNat) xs):=by rw[z7e,hxs];rfl
     have hcl:(cel 0 xss).length=xss.length:=zao _ _
     by_cases hne:xs=[]
     · subst hne
       have hcell':(cel 0 xss)[x.2.2.toNat]? =some (.d (.lit z4d)):=by rw[hcell];rfl
       have hT7:z18 7 ((1000,.rowp 94 (cel 0 xss))::inn 0 xss)=true:=zwa (by decide) (by decide) (z9k (by decide) _ _)
       have hT43:z18 43 ((1000,.rowp 94 (cel 0 xss))::inn 0 xss)=true:=zwa (by decide) (by decide) (z9k (by decide) _ _)
       have hset:xss.set x.2.2.toNat []=xss:=by
        apply List.ext_getElem?
        intro s
        by_cases h:x.2.2.toNat=s
        · subst h;rw[zAp hil,hxs]
        · rw[List.getElem?_set_ne h]
       repeat' (first|(apply z07;(first|refine z0r ?_| (apply z0b;(refine z02 z1z rfl rfl ?_))|(apply z0m;(refine z02 (z1b (ys:=l.map z3m) rfl (idx hx)) rfl rfl ?_))|(apply z0t;(refine z02 (z0u z0x) rfl rfl ?_))|(apply z0c;(first|refine zi9 rfl rfl rfl rfl rfl (by omega) rfl ?_|refine z22 ?_))|(apply z0g;(refine z0a (zgl rfl (zae 1 hT7 rfl) (by decide)) ?_))))|(apply z08;(first|refine z0p ?_|apply z09))|(apply z05;(first|apply z06|apply z00|apply z04|apply z01|apply z2b|apply z03|refine z0f (fun _=>?_) (fun _=>?_)| refine z0l ?_))|(apply z2c;(first|refine zqu (fs:=[43]) mix (by kernel_rfl) rfl (by simp only[List.all_cons,List.all_nil,Bool.and_true];exact zae 3 hT43 rfl) ?_|refine z2e ?_| (apply z0j;(first|refine z0h (zl3 hcell' rfl rfl) rfl rfl ?_| refine z0h z1i rfl rfl ?_))|(apply z0z;(refine z0h z0q rfl rfl ?_))|(apply z0o;(refine z0h (zh8 rfl (by omega) (by omega) rfl) rfl rfl ?_))|(apply z6u;(refine y14 (r:=[((i:Nat):Int)]) (g:=icc) (by first|exact rfl|exact⟨_,rfl,rfl,rfl⟩) rfl rfl rfl (fun _=>rfl) rfl (zae 3 hT43 rfl) (by decide) (by simp) ?_))|(apply za4;(refine zg3 rfl ?_)))))
       all_goals try (exfalso;omega)
       refine zmu (tm':=TMI F A l i (j+1)) (pre:=[(43,.row 3 1 (([]++[((i:Nat):Int)]).map icc)),(1000,.rowp 94 ((cel 0 xss).set x.2.2.toNat (.ref (0,43)))),(1,BX F A)]) (T:=inn 0 xss) 6 rfl rfl rfl rfl (fun s h=>zdn _ _ h) ?_
       rw[← hset]
       rw[show ((cel 0 (xss.set x.2.2.toNat [])).set x.2.2.toNat (.ref (0,43)))=((cel 0 xss).set x.2.2.toNat (.ref (0,43))) by rw[hset]]
       refine zrg 43 (xss:=xss) (i:=x.2.2.toNat) (ys:=[]++[((i:Nat):Int)]) hil (by simp) (by decide) [(1,BX F A)] (by simp[z3c,PV.says];omega) rfl (by decide) (fun s b hb=>?_) ?_
       · exact zD58
       exact y6h rfl ihj'
     · have hcell1:((cel 0 xss).set x.2.2.toNat (.ref (0,1001)))[x.2.2.toNat]? =some (.ref (0,1001)):=zAp (by omega)
       have hcl1:((cel 0 xss).set x.2.2.toNat (.ref (0,1001))).length=xss.length:=by rw[List.length_set,hcl]
       have hss:((cel 0 xss).set x.2.2.toNat (.ref (0,1001))).set x.2.2.toNat (.ref (0,43))=(cel 0 xss).set x.2.2.toNat (.ref (0,43)):=by rw[List.set_set]
       refine y1l rfl ?_
       refine y1d hxs hne [(1,BX F A)] (by simp[z3c,PV.says];omega) rfl (fun s b hb=>?_) ?_
       · exact zD58
       have hT7:z18 7 ((1000,.rowp 94 ((cel 0 xss).set x.2.2.toNat (.ref (0,1001))))::((1,BX F A)::inn 0 (xss.set x.2.2.toNat [])))=true:=by
        rw[z18,z18,zcg (by decide),zs1]
        simp[Blk.says,z8b (n:=(0,7)) (p:=.ref (0,1001)) (i:=x.2.2.toNat) (z9k (d:=7) (by decide) xss 0) rfl]
       have hT43:z18 43 ((1000,.rowp 94 ((cel 0 xss).set x.2.2.toNat (.ref (0,1001))))::((1,BX F A)::inn 0 (xss.set x.2.2.toNat [])))=true:=by
        rw[z18,z18,zcg (by decide),zs1]
        simp[Blk.says,z8b (n:=(0,43)) (p:=.ref (0,1001)) (i:=x.2.2.toNat) (z9k (d:=43) (by decide) xss 0) rfl]
       generalize (cel 0 xss).set x.2.2.toNat (.ref (0,1001))=cs1 at *
       repeat' (first|(apply z07;(first|refine z0r ?_| (apply z0b;(refine z02 z1z rfl rfl ?_))|(apply z0m;(refine z02 (z1b (ys:=l.map z3m) rfl (idx hx)) rfl rfl ?_))|(apply z0t;(refine z02 (z0u z0x) rfl rfl ?_))|(apply z0c;(first|refine zi9 rfl rfl rfl rfl rfl (by omega) rfl ?_|refine z22 ?_))|(apply z0g;(refine z0a (zgl rfl (zae 1 hT7 rfl) (by decide)) ?_))))|(apply z08;(first|refine z0p ?_|apply z09))|(apply z05;(first|apply z06|apply z00|apply z04|apply z01|apply z2b|apply z03|refine z0f (fun _=>?_) (fun _=>?_)| refine z0l ?_))|(apply z2c;(first|refine zqu (fs:=[43]) mix (by kernel_rfl) rfl (by simp only[List.all_cons,List.all_nil,Bool.and_true];exact zae 3 hT43 rfl) ?_|refine z2e ?_| (apply z0j;(first|refine z0h (zl3 hcell1 rfl rfl) rfl rfl ?_| refine z0h z1i rfl rfl ?_))|(apply z0z;(refine z0h z0q rfl rfl ?_))|(apply z0o;(refine z0h (zh8 rfl (by omega) (by omega) rfl) rfl rfl ?_))|(apply z6u;(refine zbm (g:=icc) (by first|exact rfl|exact⟨_,rfl,rfl,rfl⟩) rfl rfl ((i:Nat):Int) rfl rfl rfl rfl rfl rfl (zae 3 hT43 rfl) (by decide) (by omega) ?_))|(apply za4;(refine zg3 rfl ?_)))))
       all_goals try (exfalso;omega)
       rw[hss]
       refine zmu (tm':=TMI F A l i (j+1)) (pre:=[(43,.row 3 1 ((xs++[((i:Nat):Int)]).map icc)),(1000,.rowp 94 ((cel 0 xss).set x.2.2.toNat (.ref (0,43)))),(1,BX F A)]) (T:=inn 0 (xss.set x.2.2.toNat [])) 8 rfl rfl rfl rfl (fun s h=>zdn _ _ h) ?_
       refine zrg 43 (xss:=xss) (i:=x.2.2.toNat) (ys:=xs++[((i:Nat):Int)]) hil (by simp) (by decide) [(1,BX F A)] (by simp[z3c,PV.says];omega) rfl (by decide) (fun s b hb=>?_) ?_
       · exact zD58
       exact y6h rfl ihj'
   · obtain rfl:j=l.length:=by omega
     rw[zAs,List.foldl_nil] at j4
     have ih':=ih (i+1,xss) ⟨by simp only;omega,j2,fun xs hx=>by have:=j3 xs hx;simp only;omega,by rw[j4];exact i4⟩ (by simp only;omega)
     repeat' (first|(apply z07;(first|refine z0r ?_| (apply z0t;(refine z02 (z0u z0x) rfl rfl ?_))))|(apply z08;(first|refine z0p ?_|apply z09))|(apply z05;(first|apply z06|apply z00|apply z04|apply z01|apply z03|refine z0f (fun _=>?_) (fun _=>?_)| refine z0l ?_)))
     all_goals try (exfalso;omega)
     refine zmu (tm':=TMO F A (i+1)) (pre:=[(1,BX F A),(1000,.rowp 94 (cel 0 xss))]) (T:=inn 0 xss) 2 rfl rfl rfl rfl (fun s h=>zdn _ _ h) ?_
     exact ih'
 · obtain rfl:i=A.length:=by omega
   rw[zAs,zwc] at i4
   clear ih
   have hXmem:∀ (s:Nat) (p:Int),p∈xss0.getD s []↔∃ (k:Nat) (l:List Arc) (x:Arc),A[k]? =some l∧x∈l∧x.2.2.toNat=s∧p=k:=fun s p=>by
    rw[i4,zlz (fun l hl x hx=>by rw[zAr];have:=(hr l hl).2 x hx;omega)]
    constructor
    · rintro(h|⟨k,l,x,h1,h2,h3,h4⟩)
      · rw[List.getD,List.getElem?_replicate] at h;split at h <;> simp at h
      · exact⟨k,l,x,h1,h2,h3,by rw[h4,Nat.zero_add]⟩
    · rintro⟨k,l,x,h1,h2,h3,h4⟩
      exact .inr ⟨k,l,x,h1,h2,h3,by rw[h4,Nat.zero_add]⟩
   have hXlen:∀ xs∈xss0,xs.length≤100000000000:=fun xs hx=>by have:=i3 xs hx;have:=zxh A A.length;omega
   clear i4 i3
   refine y1l rfl ?_
   refine zvb [(1,BX F A)] (fun m=>by simp[z3c,PV.says];omega) (fun m s b hb=>?_) ?_
   · rw[Ab.look] at hb
     split at hb
     · rename_i h1;subst h1;simp at hb;subst hb
       exact⟨by decide,by decide,fun x=>by simp[Blk.frz,zt5,PV.frz]⟩
     · simp[Ab.look] at hb
   refine z2g 1000 rfl ?_
   have hrow:List.replicate ((F.length:Nat):Int).toNat [D.lit (.bool false)]=(List.replicate F.length false).map boc:=by simp
   repeat' (first|(apply z07;(first|refine z0r ?_| (apply z0b;(refine z02 z1i rfl rfl ?_))|(apply z0e;(refine z02 z0q rfl rfl ?_))|(apply z11;(refine z02 (z1k rfl) rfl rfl ?_))|(apply zl7;(refine zl0 (xs:=(List.replicate F.length false).map boc) rfl rfl (by omega) (by omega) rfl rfl rfl (by decide) (by simp) ?_))))|(apply z08;(first|refine z0p ?_|apply z09))|(apply z05;(first|apply z06|apply z00|apply z04|apply z01|refine z0f (fun _=>?_) (fun _=>?_)| refine z0l ?_)))
   all_goals try (exfalso;omega)
   refine z2p 50 1006 ?_
   refine z2x 9 1004 3 1 rfl rfl rfl ?_
   have hcnt:(List.replicate F.length false).count false=F.length:=by simp
   refine z1f ?_
   refine z0d (z25 (fun q:Nat × List Bool × List Int=>⟨105,[(3,.d (.slice (xss0.map fun xs=>[D.slice (xs.map icc)]))),(8,.ref (0,1006)),(9,.ref (0,1004)),(52,.d (zkk F)),(53,I .i64 F.length),(54,I .i64 (q.1:Nat))],[(1006,.row 4 1 (q.2.1.map boc)),(1004,.row 3 1 (q.2.2.map icc))],H⟩) (fun q=>q.1≤F.length∧q.2.1.length=F.length∧(∀ z∈q.2.2,∃ s:Nat,z=(s:Int)∧q.2.1[s]? =some true)∧(∀ s:Nat,q.2.1[s]? =some true↔s<q.1∧F[s]? =some true)∧(∀ s:Nat,q.2.1[s]? =some true→(s:Int)∈q.2.2)∧q.2.2.length+q.2.1.count false≤F.length) (fun q=>F.length-q.1) ?_ (0,List.replicate F.length false,[]) ⟨zAf _,by simp,by simp,fun s=>by simp[List.getElem?_replicate],fun s=>by simp[List.getElem?_replicate],by simp⟩) rfl rfl
   rintro⟨q,out,stk⟩ ⟨k1,k2,k3,k4,k5,k6⟩ ih
   simp only at k1 k2 k3 k4 k5 k6 ih ⊢
   by_cases hq:q<F.length
   · obtain⟨b,hb⟩:∃ b,F[q]? =some b:=⟨_,zA0 hq⟩
     obtain⟨o,ho⟩:∃ o,out[q]? =some o:=⟨_,zA0 (by omega)⟩
     have hof:o=false:=by
      cases o with
      | false=>rfl
      | true=>have:=(k4 q).1 ho;omega
     subst hof
     cases b with
     | true =>
      have hc:=count_set ho
      have hset:out.set ((q:Nat):Int).toNat true=out.set q true:=by rw[zA9]
      have hoi:out[((q:Nat):Int).toNat]? =some false:=by rw[zA9];exact ho
      have up:∀ s:Nat,out[s]? =some true→(out.set q true)[s]? =some true:=fun s hs=>by
       by_cases e:q=s
       · subst e;exact zAp (by omega)
       · rw[List.getElem?_set_ne e];exact hs
      have ih':=ih (q+1,out.set q true,stk++[((q:Nat):Int)]) ⟨by simp only;omega,by simp[k2],fun z hz=>by
       simp only at hz
       rw[zAt,zAq] at hz
       rcases hz with hz|rfl
       · obtain⟨s,h1,h2⟩:=k3 z hz;exact⟨s,h1,up s h2⟩
       · exact⟨q,rfl,zAp (by omega)⟩,fun s=>by
       simp only
       by_cases e:q=s
       · subst e;rw[zAp (by omega)];simp[hb]
       · rw[List.getElem?_set_ne e,k4 s]
         constructor
         · rintro⟨h1,h2⟩;exact⟨by omega,h2⟩
         · rintro⟨h1,h2⟩;exact⟨by omega,h2⟩,fun s hs=>by
       simp only at hs ⊢
       by_cases e:q=s
       · subst e;simp
       · rw[List.getElem?_set_ne e] at hs;rw[zAt];exact .inl (k5 s hs),by simp only[zAa,zAn];omega⟩ (by simp only;omega)
      repeat' (first|(apply z07;(first|refine z0r ?_| (apply z0b;(refine z02 z2r rfl rfl ?_))|(apply z0m;(first|refine z02 (z1b (ys:=F.map boc) rfl (idx (g:=boc) hb)) rfl rfl ?_| refine z02 (z2m rfl (by simp only[zA4];omega)) rfl rfl ?_))|(apply z0t;(refine z02 (z0u z0x) rfl rfl ?_))|(apply z11;(refine z3w (g:=icc) ((q:Nat):Int) rfl ?_))|(apply z0c;(refine z5d true hoi hset ?_))|(apply z2o;(refine z2s rfl ?_))))|(apply z08;(first|refine z0p ?_|apply z09))|(apply z05;(first|apply z06|apply z00|refine z1c ?_| apply z04|apply z01|apply z03|refine z0f (fun _=>?_) (fun _=>?_)| refine z0l ?_)))
      all_goals try (exfalso;omega)
      all_goals refine z2p 66 1004 ?_
      all_goals exact z0d ih' rfl rfl
     | false =>
      have ih':=ih (q+1,out,stk) ⟨by simp only;omega,k2,k3,fun s=>by
       simp only
       rw[k4 s]
       constructor
       · rintro⟨h1,h2⟩;exact⟨by omega,h2⟩
       · rintro⟨h1,h2⟩
         refine⟨?_,h2⟩
         have:s≠q:=by rintro rfl;rw[hb] at h2;cases h2
         omega,k5,k6⟩ (by simp only;omega)
      repeat' (first|(apply z07;(first|refine z0r ?_| (apply z0b;(refine z02 z2r rfl rfl ?_))|(apply z0m;(refine z02 (z1b (ys:=F.map boc) rfl (idx (g:=boc) hb)) rfl rfl ?_))|(apply z0t;(refine z02 (z0u z0x) rfl rfl ?_))))|(apply z08;(first|refine z0p ?_|apply z09))|(apply z05;(first|apply z06|apply z00|refine z0w ?_| apply z04|apply z01|apply z03|refine z0f (fun _=>?_) (fun _=>?_)| refine z0l ?_)))
      all_goals exact zD18
   · obtain rfl:q=F.length:=by omega
     have hR:Go.Ax.Reach F A xss0 out stk fun _=>False:=⟨k2,k3,fun s hs=>.fin s ((k4 s).1 hs).2,fun s hs=>(k4 s).2 ⟨(zA1.1 hs).1,hs⟩,fun s hs=>.inl (k5 s hs),k6⟩
     clear k3 k4 k5 k6 ih
     repeat' (first|(apply z07;(refine z0r ?_))|(apply z08;(first|refine z0p ?_|apply z09))|(apply z05;(first|apply z06|apply z00|apply z04|apply z01|refine z0f (fun _=>?_) (fun _=>?_)| refine z0l ?_)))
     all_goals try (exfalso;omega)
     refine z1f ?_
     refine z0d (z25 (fun q:List Bool × List Int=>⟨105,[(3,.d (.slice (xss0.map fun xs=>[D.slice (xs.map icc)]))),(8,.ref (0,1006)),(9,.ref (0,1004))],[(1006,.row 4 1 (q.1.map boc)),(1004,.row 3 1 (q.2.map icc))],H⟩) (fun q=>Go.Ax.Reach F A xss0 q.1 q.2 fun _=>False) (fun q=>2*q.1.count false+q.2.length) ?_ (out,stk) hR) rfl rfl
     clear hR k2 out stk
     rintro⟨out,stk⟩ hR ih
     simp only at hR ih ⊢
     rcases Go.Ab.zd7 stk with rfl|⟨stk,z,rfl⟩
     · have hfin:=zt7 hR.len (hR.done hXmem)
       rw[← hfin]
       repeat' (first|(apply z07;(first|refine z0r ?_| (apply z11;(refine z02 (z1t rfl) rfl rfl ?_))))|(apply z08;(first|refine z0p ?_|apply z09))|(apply z05;(first|apply z06|apply z00|refine z0w ?_| refine z0l ?_)))
       all_goals try (exfalso;simp at *;done)
       all_goals refine z2g 1006 rfl ?_
       all_goals exact z0n Tryz.func56 _ z19 ⟨rfl,rfl⟩
     · obtain⟨s0,rfl,hs0⟩:=hR.onS z (by simp)
       have hs0l:s0<F.length:=by have:=(zA1.1 hs0).1;rw[hR.len] at this;exact this
       obtain⟨bq,hbq⟩:∃ bq,xss0[s0]? =some bq:=⟨_,zA0 (by omega)⟩
       have hbqi:xss0[((s0:Nat):Int).toNat]? =some bq:=by rw[zA9];exact hbq
       have hbl:=hXlen bq (zA2 hbq)
       have hll:(stk++[((s0:Nat):Int)]).length=stk.length+1:=by simp
       have hlast:(stk++[((s0:Nat):Int)])[((((stk++[((s0:Nat):Int)]).length:Nat):Int)-1).toNat]? =some ((s0:Nat):Int):=by
        rw[hll,show (((stk.length+1:Nat):Int)-1).toNat=stk.length by omega];simp
       have hfew:=hR.few
       have htake:((stk++[((s0:Nat):Int)]).map icc).take (((((stk++[((s0:Nat):Int)]).length:Nat):Int)-1).toNat)=stk.map icc:=by
        rw[hll,show (((stk.length+1:Nat):Int)-1).toNat=stk.length by omega,List.map_append,List.take_left' (by simp)]
       repeat' (first|(apply z07;(first|refine z0r ?_| (apply z0b;(first|refine z02 (z13 (u:=z2w (s0:Nat)) hlast) rfl rfl ?_| refine z02 z2r rfl rfl ?_))|(apply z0m;(first|refine z02 (z2m rfl (by simp only[zA4];omega)) rfl rfl ?_| refine z02 (z1b (ys:=xss0.map fun xs=>[D.slice (xs.map icc)]) rfl (zgu (g:=fun xs=>[D.slice (xs.map icc)]) hbqi)) rfl rfl ?_))|(apply z0t;(refine z02 (z1g z0x) rfl rfl ?_))|(apply zjs;(refine z02 (zqy rfl (by omega) (by simp only[zA4];omega) rfl) rfl rfl ?_))|(apply z11;(first|refine z02 (z1t rfl) rfl rfl ?_| refine z02 (z1k rfl) rfl rfl ?_))))|(apply z08;(first|refine z0p ?_|apply z09))|(apply z05;(first|apply z06|apply z00|apply z04|apply z01|refine z0f (fun _=>?_) (fun _=>?_)| refine z0l ?_)))
       all_goals try (exfalso;omega)
       refine zvu 9 1005 rfl rfl (by simp only[zA4];omega) rfl (by decide) ?_
       rw[htake]
       refine z2p 1005 1004 ?_
       refine z1f ?_
       have hR1:=hR.pop
       have hs0X:∀ p∈bq,∃ k:Nat,p=(k:Int)∧k<F.length∧z6n F A k:=fun p hp=>by
        obtain⟨k,l,x,h1,h2,h3,h4⟩:=(hXmem s0 p).1 (by rw[List.getD,hbq];exact hp)
        refine⟨k,h4,by have:=(zA1.1 h1).1;omega,.arc k l x h1 h2 ?_⟩
        rw[h3];exact hR.sound s0 hs0
       refine z0d (z25 (fun q:Nat × List Bool × List Int=>⟨105,[(3,.d (.slice (xss0.map fun xs=>[D.slice (xs.map icc)]))),(8,.ref (0,1006)),(9,.ref (0,1004)),(85,.d (.slice (bq.map icc))),(86,I .i64 bq.length),(87,I .i64 (q.1:Nat))],[(1006,.row 4 1 (q.2.1.map boc)),(1004,.row 3 1 (q.2.2.map icc))],H⟩) (fun q=>q.1≤bq.length∧(Go.Ax.Reach F A xss0 q.2.1 q.2.2 fun s=>s=s0)∧(∀ p∈bq.take q.1,q.2.1[p.toNat]? =some true)∧2*q.2.1.count false+q.2.2.length≤2*out.count false+stk.length) (fun q=>bq.length-q.1) ?_ (0,out,stk) ⟨zAf _,hR1,by simp,zAj _⟩) rfl rfl
       rintro⟨j,out2,stk2⟩ ⟨j1,hR2,j3,j4⟩ ihj
       simp only at j1 hR2 j3 j4 ihj ⊢
       by_cases hj:j<bq.length
       · obtain⟨p,hp⟩:∃ p,bq[j]? =some p:=⟨_,zA0 hj⟩
         obtain⟨kk,rfl,hk,hlead⟩:=hs0X p (zA2 hp)
         obtain⟨o,ho⟩:∃ o,out2[kk]? =some o:=⟨_,zA0 (by rw[hR2.len];exact hk)⟩
         have hoi:out2[((kk:Nat):Int).toNat]? =some o:=by rw[zA9];exact ho
         have htk:bq.take (j+1)=bq.take j++[((kk:Nat):Int)]:=by rw[List.take_add_one,hp];rfl
         have hfew2:=hR2.few
         have hol:=hR2.len
         cases o with
         | true =>
          have ihj':=ihj (j+1,out2,stk2) ⟨by simp only;omega,hR2,fun z hz=>by
           simp only at hz ⊢
           rw[htk,zAt,zAq] at hz
           rcases hz with hz|rfl
           · exact j3 z hz
           · exact hoi,j4⟩ (by simp only;omega)
          repeat' (first|(apply z07;(first|refine z0r ?_| (apply z0b;(first|refine z02 (z13 (u:=zby true) hoi) rfl rfl ?_| refine z02 z2r rfl rfl ?_))|(apply z0m;(first|refine z02 (z1b (ys:=bq.map icc) rfl (idx (g:=icc) hp)) rfl rfl ?_| refine z02 (z2m rfl (by simp only[zA4];omega)) rfl rfl ?_))|(apply z0t;(refine z02 (z0u z0x) rfl rfl ?_))))|(apply z08;(first|refine z0p ?_|apply z09))|(apply z05;(first|apply z06|apply z00|refine z0w ?_| apply z04|apply z01|apply z03|refine z0f (fun _=>?_) (fun _=>?_)| refine z0l ?_)))
          all_goals try (exfalso;first|omega|(simp at *;done))
          all_goals exact z0d ihj' rfl rfl
         | false =>
          have hc:=count_set ho
          have hset:out2.set ((kk:Nat):Int).toNat true=out2.set kk true:=by rw[zA9]
          have ihj':=ihj (j+1,out2.set kk true,stk2++[((kk:Nat):Int)]) ⟨by simp only;omega,hR2.push ho hlead,fun z hz=>by
           simp only at hz ⊢
           rw[htk,zAt,zAq] at hz
           rcases hz with hz|rfl
           · have:=j3 z hz
             by_cases e:kk=z.toNat
             · rw[← e];exact zAp (by omega)
             · rw[List.getElem?_set_ne e];exact this
           · rw[zA9];exact zAp (by omega),by simp only[zAa,zAn];omega⟩ (by simp only;omega)
          repeat' (first|(apply z07;(first|refine z0r ?_| (apply z0b;(first|refine z02 (z13 (u:=zby false) hoi) rfl rfl ?_| refine z02 z2r rfl rfl ?_))|(apply z0m;(first|refine z02 (z1b (ys:=bq.map icc) rfl (idx (g:=icc) hp)) rfl rfl ?_| refine z02 (z2m rfl (by simp only[zA4];omega)) rfl rfl ?_))|(apply z0t;(refine z02 (z0u z0x) rfl rfl ?_))|(apply z11;(refine z3w (g:=icc) ((kk:Nat):Int) rfl ?_))|(apply z0c;(refine z5d true hoi hset ?_))|(apply z2o;(refine z2s rfl ?_))))|(apply z08;(first|refine z0p ?_|apply z09))|(apply z05;(first|apply z06|apply z00|refine z1c ?_| apply z04|apply z01|apply z03|refine z0f (fun _=>?_) (fun _=>?_)| refine z0l ?_)))
          all_goals try (exfalso;first|omega|(simp at *;done))
          all_goals refine z2p 102 1004 ?_
          all_goals exact z0d ihj' rfl rfl
       · obtain rfl:j=bq.length:=by omega
         rw[List.take_length] at j3
         have ih':=ih (out2,stk2) (hR2.shut (by rw[List.getD,hbq];exact j3)) (by simp only[zAa,zAn];omega)
         all_goals exact zD83
theorem zki:zgw Tryz.prog 9 (fun x:ByteArray=>Value.string x):=y18.gen (T9.str rfl)
theorem zsl {a:ByteArray}:∀ β w own v,PR β w own (S a) v→v=Value.string a:=fun β w own v h=>h.lit
theorem zmv {K:Type}:∀ (ks:List K) (i:Nat),(z3x i ks).length=ks.length
 | [],_=>rfl
 | k::ks,i=>by rw[z3x,zAk,zmv ks,zAk]
abbrev mpB (ks:List ByteArray):Blk:=.mp ((z3x 0 ks).map fun p=>(Value.string p.1,p.2))
theorem zgr {n:Nat} {tm:List (Nat × PV)} {hp:Hp} {up:Hf} {d:Nat} {ty:TypeId} {pos:String} {aft:Array Go.Edge} {gd:Option (Nat × Bool)} {x:Operand} {t kt et:TypeId} {ms:Nat} {ks:List ByteArray} (hm:Tryz.prog.underlying t=some (.map kt et)) (hx:St.ev ⟨n,tm,hp,up⟩ x=some (.ref (0,ms))) (hb:Ab.look hp ms=some (mpB ks)) (hd:d<n) :
 z2a Tryz.prog ⟨some d,.call ⟨.builtin .len,#[x],#[t]⟩,ty,pos,aft,gd⟩ ⟨n,tm,hp,up⟩ ⟨n,(d,I .i64 ks.length)::tm,hp,up⟩:=by
 have:=y2p (P:=Tryz.prog) (ty:=ty) (pos:=pos) (aft:=aft) (gd:=gd) hm hx hb hd
 rwa [zA4,zmv] at this
theorem zg0 {a:List Int} {n q:Nat} (hq:a.length=q) (h:q<n) (v w:Int):(a++v::List.replicate (n-q-1) 0).set q w=a++w::List.replicate (n-q-1) 0:=by
 subst hq;simp
theorem zi6 {n q:Nat} (h:q<n):List.replicate (n-q) (0:Int)=0::List.replicate (n-q-1) 0:=by
 obtain⟨k,hk⟩:∃ k,n-q=k+1:=⟨n-q-1,by omega⟩
 rw[hk,List.replicate_succ,show k+1-1=k by omega]
def y4d (o:Option (List Int)):PV:=match o with
 | some cl=>.tup [.d (ints cl),B true]
 | none=>.tup [.d (ints []),B false]
theorem zrz (F:List Bool) (A:List (List Arc)) (lim:Int) (hl0:0≤lim) (hAF:A.length=F.length) (hr:∀ l∈A,l.length≤2000000∧∀ x∈l,0≤x.1∧x.1≤x.2.1∧x.2.1≤1114111∧0≤x.2.2∧x.2.2<F.length) (hlen:F.length≤4000000) (htot:(A.map List.length).sum≤1000000000) :
 z0y Tryz.prog 78 [.d (auD ⟨F,A⟩),I .i64 lim] (y4d (zwz F A lim.toNat)):=by
 refine z1r fun H=>?_
 have hal:=zqf F A hAF (fun l hl=>⟨(hr l hl).1,fun x hx=>by have:=(hr l hl).2 x hx;omega⟩) hlen (by omega)
 have hLl:(z56 F A).length=F.length:=by simp[z56]
 have hA1:∀ l∈A,∀ x∈l,0≤x.1∧x.1≤x.2.1∧x.2.1≤1114111:=fun l hl x hx=>by have:=(hr l hl).2 x hx;omega
 have hW0:=zp7 F A
 have hc0:∀ q,q<F.length→(cl0 F A).take (q+1)=(cl0 F A).take q++[if (z56 F A).getD q false=true then (if F.getD q false=true then 1 else 0) else -1]:=fun q hq=>by
  rw[List.take_add_one]
  congr 1
  simp[cl0,hq]
 have hcl0:(cl0 F A).length=F.length:=hW0.len
 rw[zwz]
 generalize hres:zkm A lim.toNat (F.length+1) 0 (cl0 F A)=res
 generalize z56 F A=L at *
 generalize cl0 F A=C0 at *
 refine z0k Tryz.func78 (by kernel_rfl) rfl (by simp) ?_
 dsimp only[Tryz.f78]
 repeat' (first|(apply z07;(first|refine z0r ?_| (apply z0b;(first|refine z02 z2q rfl rfl ?_| refine z02 z1i rfl rfl ?_))|(apply z0e;(refine z02 z0q rfl rfl ?_))|(apply z11;(first|refine z02 (z1t rfl) rfl rfl ?_| refine z02 (z1k rfl) rfl rfl ?_))|(apply z0s;(refine z1w hal ?_))|(apply z1s;(refine z0a z3y ?_))|(apply zl7;(refine zl0 (xs:=(List.replicate F.length (0:Int)).map icc) rfl rfl (Int.natCast_nonneg _) (by show ((F.length:Nat):Int)≤_;omega) rfl rfl rfl (by decide) (by simp) ?_))))|(apply z08;(first|refine z0p ?_|apply z09))|(apply z05;(first|apply z06|apply z00|apply z01)))
 all_goals try (exfalso;omega)
 refine z2p 24 1000 ?_
 rw[show ((List.replicate F.length (0:Int)).length)=F.length by simp]
 refine z1f ?_
 refine z0d (z25 (fun q:Nat=>⟨129,[(1,I .i64 lim),(2,.ptr (0,2) 0),(6,.d (zkk L)),(7,.ref (0,1000)),(26,I .i64 F.length),(27,I .i64 (q:Nat))],[(1000,.row 3 1 ((C0.take q++List.replicate (F.length-q) 0).map icc)),(2,BX F A)],H⟩) (fun q=>q≤F.length) (fun q=>F.length-q) ?_ 0 (zAf _)) rfl rfl
 · intro q hq ih
   by_cases hlt:q<F.length
   · obtain⟨b,hb⟩:∃ b,F[q]? =some b:=⟨_,zA0 hlt⟩
     obtain⟨o,ho⟩:∃ o,L[q]? =some o:=⟨_,zA0 (by omega)⟩
     have hcq:=hc0 q hlt
     rw[List.getD,ho,Option.getD_some,List.getD,hb,Option.getD_some] at hcq
     have ih':=ih (q+1) (by omega) (by omega)
     have hrs:=zi6 hlt
     have htl:(C0.take q).length=q:=by rw[zAm];omega
     have hget:(C0.take q++List.replicate (F.length-q) 0)[((q:Nat):Int).toNat]? =some 0:=by
      rw[hrs,zA9,zAg (by omega),htl,Nat.sub_self];rfl
     have hset:∀ v,(C0.take q++List.replicate (F.length-q) 0).set ((q:Nat):Int).toNat v=C0.take q++[v]++List.replicate (F.length-(q+1)) 0:=fun v=>by
      rw[hrs,zA9,zg0 htl hlt,show F.length-(q+1)=F.length-q-1 by omega];simp
     have hno:C0.take q++List.replicate (F.length-q) 0=C0.take q++[0]++List.replicate (F.length-(q+1)) 0:=by
      rw[hrs,show F.length-(q+1)=F.length-q-1 by omega];simp
     rw[hcq] at ih'
     cases o with
     | false =>
      rw[zAy (by decide)] at ih'
      have hs1:=hset (-1)
      repeat' (first|(apply z07;(first|refine z0r ?_| (apply z0b;(refine z02 z2r rfl rfl ?_))|(apply z0m;(first|refine z02 (z1b (ys:=L.map boc) rfl (idx (g:=boc) ho)) rfl rfl ?_| refine z02 (z2m rfl (by simp only[zA4,zAa,zAr,htl];omega)) rfl rfl ?_))|(apply z0t;(refine z02 (z0u z0x) rfl rfl ?_))|(apply z0c;(refine z5d (-1:Int) hget hs1 ?_))))|(apply z08;(first|refine z0p ?_|apply z09))|(apply z05;(first|apply z06|apply z00|refine z1c ?_| apply z04|apply z01|apply z03|refine z0f (fun _=>?_) (fun _=>?_)| refine z0l ?_)))
      all_goals exact zD43
     | true =>
      rw[zAz rfl] at ih'
      cases b with
      | true =>
       rw[zAz rfl] at ih'
       have hs1:=hset 1
       repeat' (first|(apply z07;(first|refine z0r ?_| (apply z0b;(first|refine z02 z1i rfl rfl ?_| refine z02 z2r rfl rfl ?_))|(apply z0e;(refine z02 z0q rfl rfl ?_))|(apply z0m;(first|refine z02 (z1b (ys:=L.map boc) rfl (idx (g:=boc) ho)) rfl rfl ?_| refine z02 (z1b (ys:=F.map boc) rfl (idx (g:=boc) hb)) rfl rfl ?_| refine z02 (z2m rfl (by simp only[zA4,zAa,zAr,htl];omega)) rfl rfl ?_))|(apply z0t;(refine z02 (z0u z0x) rfl rfl ?_))|(apply z0c;(refine z5d (1:Int) hget hs1 ?_))))|(apply z08;(first|refine z0p ?_|apply z09))|(apply z05;(first|apply z06|apply z00|refine z1c ?_| refine z0w ?_| apply z04|apply z01|apply z03|refine z0f (fun _=>?_) (fun _=>?_)| refine z0l ?_)))
       all_goals exact zD43
      | false =>
       rw[zAy (by decide),← hno] at ih'
       repeat' (first|(apply z07;(first|refine z0r ?_| (apply z0b;(first|refine z02 z1i rfl rfl ?_| refine z02 z2r rfl rfl ?_))|(apply z0e;(refine z02 z0q rfl rfl ?_))|(apply z0m;(first|refine z02 (z1b (ys:=L.map boc) rfl (idx (g:=boc) ho)) rfl rfl ?_| refine z02 (z1b (ys:=F.map boc) rfl (idx (g:=boc) hb)) rfl rfl ?_))|(apply z0t;(refine z02 (z0u z0x) rfl rfl ?_))))|(apply z08;(first|refine z0p ?_|apply z09))|(apply z05;(first|apply z06|apply z00|refine z0w ?_| apply z04|apply z01|apply z03|refine z0f (fun _=>?_) (fun _=>?_)| refine z0l ?_)))
       all_goals exact zD43
   · obtain rfl:q=F.length:=by omega
     clear ih
     rw[Nat.sub_self,List.replicate_zero,List.append_nil,show C0.take F.length=C0 by rw[← hcl0,List.take_length]]
     refine z2g 1000 rfl ?_
     repeat' (first|(apply z07;(refine z0r ?_))|(apply z08;(first|refine z0p ?_|apply z09))|(apply z05;(first|apply z06|apply z00|apply z04|apply z01|refine z0f (fun _=>?_) (fun _=>?_)| refine z0l ?_)))
     all_goals try (exfalso;omega)
     refine z1f ?_
     refine z0d (z25 (fun q:Nat × Nat × List Int=>⟨129,[(1,I .i64 lim),(2,.ptr (0,2) 0),(7,.d (ints q.2.2)),(9,I .i64 (q.2.1:Nat))],[(2,BX F A)],H⟩) (fun q=>ClW F.length q.2.1 q.2.2∧zkm A lim.toNat q.1 q.2.1 q.2.2=res∧F.length+1≤q.1+q.2.1) (fun q=>q.1) ?_ (F.length+1,0,C0) ⟨hW0,hres,by simp only;omega⟩) rfl rfl
     clear hres hW0 hc0 hcl0 hLl hal
     rintro⟨f,c,cl⟩ ⟨hW,hres,hf⟩ ih
     simp only at hW hres hf ih ⊢
     obtain⟨f,rfl⟩:∃ f',f=f'+1:=⟨f-1,by have:=hW.few;omega⟩
     rw[zkm] at hres
     obtain⟨hmore,hW2⟩:=zqp hlen hW hA1
     have hcl:=hW.len
     have hrnd:rnd A cl=(List.range F.length).foldl (z9i A cl) ([],[]):=by rw[rnd,hcl]
     repeat' (first|(apply z07;(first|refine zaz (by decide) rfl ?_|refine z0r ?_| (apply z11;(refine z02 (z1k rfl) rfl rfl ?_))|(apply zl7;(refine zl0 (xs:=(List.replicate F.length (0:Int)).map icc) rfl rfl (Int.natCast_nonneg _) (by first|omega|(simp only[zA4];omega)) rfl rfl rfl (by decide) (by simp[hcl]) ?_))))|(apply z08;(first|refine z0p ?_|apply z09))|(apply z05;(first|apply z06|apply z00|apply z01)))
     refine z2p 52 1001 ?_
     refine z1f ?_
     rw[hcl]
     refine z0d (z25 (fun q:Nat × List ByteArray × List Int=>⟨129,[(1,I .i64 lim),(2,.ptr (0,2) 0),(7,.d (ints cl)),(9,I .i64 (c:Nat)),(10,.ref (0,49)),(11,.ref (0,1001)),(53,.d (ints cl)),(54,I .i64 F.length),(55,I .i64 (q.1:Nat))],[(49,mpB q.2.1),(1001,.row 3 1 ((q.2.2++List.replicate (F.length-q.1) 0).map icc)),(2,BX F A)],H⟩) (fun q=>q.1≤F.length∧q.2=(List.range q.1).foldl (z9i A cl) ([],[])) (fun q=>F.length-q.1) ?_ (0,[],[]) ⟨zAf _,rfl⟩) rfl rfl
     rintro⟨q,sigs,nx⟩ ⟨q1,q2⟩ ihq
     simp only at q1 q2 ihq ⊢
     have hRn:=rnS A cl q
     rw[← q2] at hRn
     have hnl:nx.length=q:=hRn.len
     have hsl:sigs.length≤q:=hRn.few
     clear hRn
     by_cases hlt:q<F.length
     · obtain⟨k,hk⟩:∃ k,cl[q]? =some k:=⟨_,zA0 (by omega)⟩
       obtain⟨l,hl⟩:∃ l,A[q]? =some l:=⟨_,zA0 (by omega)⟩
       have hkr:=hW.rng k (zA2 hk)
       have hone:(List.range (q+1)).foldl (z9i A cl) ([],[])=z9i A cl (sigs,nx) q:=by
        rw[List.range_succ,List.foldl_append,List.foldl_cons,List.foldl_nil,← q2]
       rw[z9i,z47 hk,sgA,z47 hk,List.getD,hl,Option.getD_some] at hone
       have hrs:=zi6 hlt
       have hget:(nx++List.replicate (F.length-q) 0)[((q:Nat):Int).toNat]? =some 0:=by
        rw[hrs,zA9,zAg (by omega),hnl,Nat.sub_self];rfl
       have hset1:(nx++List.replicate (F.length-q) 0).set ((q:Nat):Int).toNat (-1)=nx++(-1)::List.replicate (F.length-q-1) 0:=by
        rw[hrs,zA9,zg0 hnl hlt]
       by_cases hneg:k<0
       · rw[zAz hneg] at hone
         have ih':=ihq (q+1,sigs,nx++[-1]) ⟨by simp only;omega,hone.symm⟩ (by simp only;omega)
         simp only at ih'
         rw[show nx++[-1]++List.replicate (F.length-(q+1)) 0=nx++(-1)::List.replicate (F.length-q-1) 0 by rw[show F.length-(q+1)=F.length-q-1 by omega];simp] at ih'
         repeat' (first|(apply z07;(first|refine z0r ?_| (apply z0b;(refine z02 z2r rfl rfl ?_))|(apply z0m;(first|refine z02 (z1b (ys:=cl.map icc) rfl (idx (g:=icc) hk)) rfl rfl ?_| refine z02 (z2m rfl (by simp only[zA4,zAa,zAr];omega)) rfl rfl ?_))|(apply z0t;(refine z02 (z0u z0x) rfl rfl ?_))|(apply z0c;(refine z5d (-1:Int) hget hset1 ?_))|(apply z2o;(refine z2s rfl ?_))))|(apply z08;(first|refine z0p ?_|apply z09))|(apply z05;(first|apply z06|apply z00|apply z04|apply z01|refine z0f (fun _=>?_) (fun _=>?_)| refine z0l ?_)))
         all_goals exact zD18
       · rw[zAy hneg] at hone
         obtain⟨l1,l2⟩:=hr l (zA2 hl)
         have hnum:=zvk k (by omega)
         have hby:=zis l cl l1 (fun x hx=>by have:=l2 x hx;omega)
         have hbm:=zfk (B:=4000000) (fun q=>(zah hW.rng q).2) (hA1 l (zA2 hl))
         have hbl:=zql (cl:=cl) (l:=l)
         have hsig:zw5 cl k l=z74 k++(byC cl l).flatMap fun x=>z74 x.1++z74 x.2.1++z74 x.2.2:=rfl
         generalize byC cl l=es at *
         repeat' (first|(apply z07;(first|refine z0r ?_| (apply z0b;(first|refine z02 z1i rfl rfl ?_| refine z02 z2r rfl rfl ?_))|(apply z0e;(refine z02 z0q rfl rfl ?_))|(apply z0m;(first|refine z02 (z1b (ys:=cl.map icc) rfl (idx (g:=icc) hk)) rfl rfl ?_| refine z02 (z2m rfl (by simp only[zA4,zAa,zAr];omega)) rfl rfl ?_| refine z02 (z1b (ys:=A.map z71) rfl (idx hl)) rfl rfl ?_))|(apply z0t;(refine z02 (z0u z0x) rfl rfl ?_))|(apply z11;(first|refine zw6 (g:=by8) (q:=[]) (r:=z74 k) rfl rfl rfl rfl rfl (fun _=>rfl) rfl rfl (by decide) (by simp[z74]) ?_|refine z02 (z1k rfl) rfl rfl ?_))|(apply z0s;(first|refine z1w hnum ?_| refine z1w hby ?_))|(apply z0c;(refine z5d (-1:Int) hget hset1 ?_))|(apply z2o;(refine zet rfl rfl rfl rfl rfl rfl rfl rfl rfl (by decide) ?_))))|(apply z08;(first|refine z0p ?_|apply z09))|(apply z05;(first|apply z06|apply z00|apply z04|apply z01|refine z0f (fun _=>?_) (fun _=>?_)| refine z0l ?_)))
         all_goals try (exfalso;omega)
         refine z2p 68 1002 ?_
         refine z1f ?_
         refine z0d (z25 (fun z:Nat × List Int=>⟨129,[(1,I .i64 lim),(2,.ptr (0,2) 0),(7,.d (ints cl)),(9,I .i64 (c:Nat)),(10,.ref (0,49)),(11,.ref (0,1001)),(12,I .i64 (q:Nat)),(14,.ref (0,1002)),(53,.d (ints cl)),(54,I .i64 F.length),(55,I .i64 (q:Nat)),(75,.d (zbp es)),(76,I .i64 es.length),(77,I .i64 (z.1:Nat))],[(1002,.row 5 1 (z.2.map by8)),(49,mpB sigs),(1001,.row 3 1 ((nx++(-1)::List.replicate (F.length-q-1) 0).map icc)),(2,BX F A)],H⟩) (fun z=>z.1≤es.length∧z.2.length=4+12*z.1∧z.2++((es.drop z.1).flatMap fun x=>z74 x.1++z74 x.2.1++z74 x.2.2)=zw5 cl k l) (fun z=>es.length-z.1) ?_ (0,z74 k) ⟨zAf _,rfl,hsig.symm⟩) rfl rfl
         rintro⟨j,sg⟩ ⟨j1,j2,j3⟩ ihj
         simp only at j1 j2 j3 ihj ⊢
         by_cases hj:j<es.length
         · obtain⟨x,hx⟩:∃ x,es[j]? =some x:=⟨_,zA0 hj⟩
           obtain⟨x1,x2,x3,x4,x5,x6⟩:=hbm x (zA2 hx)
           have hn1:=zvk x.1 x1
           have hn2:=zvk x.2.1 x3
           have hn3:=zvk x.2.2 x5
           rw[drop_cons hx,List.flatMap_cons] at j3
           have ihj':=ihj (j+1,sg++z74 x.1++z74 x.2.1++z74 x.2.2) ⟨by simp only;omega,by simp only[zAa,z74,zAk,List.length_nil];omega,by rw[← j3];simp⟩ (by simp only;omega)
           repeat' (first|(apply z07;(first|refine z0r ?_| (apply z0b;(refine z02 z1z rfl rfl ?_))|(apply z0m;(refine z02 (z1b (ys:=es.map z3m) rfl (idx hx)) rfl rfl ?_))|(apply z0t;(refine z02 (z0u z0x) rfl rfl ?_))|(apply z0c;(refine z22 ?_))|(apply z0g;(refine z0a z16 ?_))))|(apply z08;(first|refine z0p ?_|apply z09))|(apply z05;(first|apply z06|apply z00|apply z04|apply z01|apply z2b|apply z03|refine z0f (fun _=>?_) (fun _=>?_)| refine z0l ?_))|(apply z2c;(first|(apply z0v;refine z1h mix ?_)|refine z2e ?_| (apply z0j;(refine z0h z1i rfl rfl ?_))|(apply z0z;(refine z0h z0q rfl rfl ?_))|(apply z6u;(first|refine zqd (g:=by8) (q:=sg) (r:=z74 x.1) (by first|exact rfl|exact⟨_,rfl,rfl,rfl⟩) rfl rfl rfl rfl rfl (fun _=>rfl) rfl rfl (by decide) (by simp[z74];omega) ?_|refine zqd (g:=by8) (q:=sg++z74 x.1) (r:=z74 x.2.1) (by first|exact rfl|exact⟨_,rfl,rfl,rfl⟩) rfl rfl rfl rfl rfl (fun _=>rfl) rfl rfl (by decide) (by simp[z74];omega) ?_|refine zqd (g:=by8) (q:=sg++z74 x.1++z74 x.2.1) (r:=z74 x.2.2) (by first|exact rfl|exact⟨_,rfl,rfl,rfl⟩) rfl rfl rfl rfl rfl (fun _=>rfl) rfl rfl (by decide) (by simp[z74];omega) ?_))|(apply z1j;(first|refine z4s hn1 ?_| refine z4s hn2 ?_| refine z4s hn3 ?_))|(apply zzo;(refine z0h (z5c rfl rfl z0x) rfl rfl ?_)))))
           all_goals try (exfalso;omega)
           all_goals refine z2p 95 1002 ?_
           all_goals exact z0d ihj' rfl rfl
         · obtain rfl:j=es.length:=by omega
           rw[zAs,List.flatMap_nil,List.append_nil] at j3
           rw[← j3] at hone
           clear ihj
           have hBA:toB sg=strOfNums sg:=rfl
           rw[hBA] at hone
           have hmg:=z8u (strOfNums sg) sigs 0
           refine z2g 1002 rfl ?_
           have hget2:(nx++(-1)::List.replicate (F.length-q-1) 0)[((q:Nat):Int).toNat]? =some (-1):=by
            rw[zA9,zAg (by omega),hnl,Nat.sub_self];rfl
           have hset2:(nx++(-1)::List.replicate (F.length-q-1) 0).set ((q:Nat):Int).toNat (z4l (strOfNums sg) sigs:Nat)=nx++((z4l (strOfNums sg) sigs:Nat):Int)::List.replicate (F.length-q-1) 0:=by
            rw[zA9,zg0 hnl hlt]
           have ih':=ihq (q+1,z7c sigs (strOfNums sg),nx++[((z4l (strOfNums sg) sigs:Nat):Int)]) ⟨by simp only;omega,hone.symm⟩ (by simp only;omega)
           simp only at ih'
           rw[show nx++[((z4l (strOfNums sg) sigs:Nat):Int)]++List.replicate (F.length-(q+1)) 0=nx++((z4l (strOfNums sg) sigs:Nat):Int)::List.replicate (F.length-q-1) 0 by rw[show F.length-(q+1)=F.length-q-1 by omega];simp] at ih'
           clear ihq hone
           by_cases hknown:strOfNums sg∈sigs
           · rw[z7c,zAz hknown] at ih'
             rw[zAz hknown,Nat.zero_add] at hmg
             have hget1:(z63 (z3x 0 sigs) (strOfNums sg)).getD (.lit (.int .i64 0))=z2w (z4l (strOfNums sg) sigs:Nat):=by rw[hmg];rfl
             have hgets:(z63 (z3x 0 sigs) (strOfNums sg)).isSome=true:=by rw[hmg];rfl
             generalize z4l (strOfNums sg) sigs=qv at *
             repeat' (first|(apply z07;(first|refine z0a (z5i (et:=3) (a:=strOfNums sg) (q:=z3x 0 sigs) (z0:=Value.int .i64 0) (py:=S (strOfNums sg)) zki (z2t (by kernel_rfl)) rfl rfl rfl zsl rfl hget1 hgets) ?_|refine z0r ?_| (apply z0m;(refine z02 (z2m rfl (by simp only[zA4,zAa,zAk,zAr];omega)) rfl rfl ?_))|(apply z0t;(refine z02 (z0u z0x) rfl rfl ?_))|(apply z0c;(refine z5d _ hget2 hset2 ?_))|refine z02 (zsi (l:=sg) rfl rfl rfl) rfl rfl ?_))|(apply z08;(first|refine z0p ?_|apply z09))|(apply z05;(first|apply z06|apply z00|refine z0w ?_| apply z04|apply z01|apply z03|refine z0f (fun _=>?_) (fun _=>?_)| refine z0l ?_)))
             all_goals exact zD43
           · rw[z7c,zAy hknown] at ih'
             rw[zAy hknown] at hmg
             have hget1:(z63 (z3x 0 sigs) (strOfNums sg)).getD (.lit (.int .i64 0))=z2w 0:=by rw[hmg];rfl
             have hgets:(z63 (z3x 0 sigs) (strOfNums sg)).isSome=false:=by rw[hmg];rfl
             have hput:=za0 hknown
             rw[z4i hknown] at ih' hset2
             dsimp only[mpB] at ih'
             rw[← hput] at ih'
             repeat' (first|(apply z07;(first|refine z0a (z5i (et:=3) (a:=strOfNums sg) (q:=z3x 0 sigs) (z0:=Value.int .i64 0) (py:=S (strOfNums sg)) zki (z2t (by kernel_rfl)) rfl rfl rfl zsl rfl hget1 hgets) ?_|refine z0a (zgr (kt:=9) (et:=3) (ks:=sigs) (by kernel_rfl) rfl rfl (by decide)) ?_|refine z0r ?_| (apply z0m;(refine z02 (z2m rfl (by simp only[zA4,zAa,zAk,zAr];omega)) rfl rfl ?_))|(apply z0t;(refine z02 (z0u z0x) rfl rfl ?_))|(apply z0c;(refine z5d _ hget2 hset2 ?_))|refine z02 (zsi (l:=sg) rfl rfl rfl) rfl rfl ?_| refine z50 (et:=3) (a:=strOfNums sg) (v:=z2w (sigs.length:Nat)) (py:=S (strOfNums sg)) (q:=z3x 0 sigs) (by kernel_rfl) zki rfl rfl zsl rfl rfl rfl ?_))|(apply z08;(first|refine z0p ?_|apply z09))|(apply z05;(first|apply z06|apply z00|refine z1c ?_| apply z04|apply z01|apply z03|refine z0f (fun _=>?_) (fun _=>?_)| refine z0l ?_)))
             all_goals exact zD43
     · obtain rfl:q=F.length:=by omega
       rw[← hrnd] at q2
       rw[← q2] at hres hmore hW2
       simp only at hres hmore hW2
       clear ihq
       rw[Nat.sub_self,List.replicate_zero,List.append_nil]
       refine z2g 1001 rfl ?_
       by_cases hlim:lim.toNat<sigs.length
       · rw[zAz hlim] at hres
         rw[← hres]
         repeat' (first|(apply z07;(first|refine z0a (zgr (kt:=9) (et:=3) (ks:=sigs) (by kernel_rfl) rfl rfl (by decide)) ?_|refine z0r ?_))|(apply z08;(first|refine z0p ?_|apply z09))|(apply z05;(first|apply z06|apply z00|apply z04|apply z01|apply z03|refine z0f (fun _=>?_) (fun _=>?_)| refine z0l ?_)))
         all_goals try (exfalso;omega)
         refine y1z 4 rfl ?_
         exact z0n Tryz.func78 _ z5j ⟨rfl,rfl⟩
       · rw[zAy hlim] at hres
         by_cases hcc:sigs.length=c
         · rw[zAz hcc] at hres
           rw[← hres]
           repeat' (first|(apply z07;(first|refine z0a (zgr (kt:=9) (et:=3) (ks:=sigs) (by kernel_rfl) rfl rfl (by decide)) ?_|refine z0r ?_))|(apply z08;(first|refine z0p ?_|apply z09))|(apply z05;(first|apply z06|apply z00|apply z04|apply z01|apply z03|refine z0f (fun _=>?_) (fun _=>?_)| refine z0l ?_)))
           all_goals try (exfalso;omega)
           all_goals exact z0n Tryz.func78 _ z5j ⟨rfl,rfl⟩
         · rw[zAy hcc] at hres
           have ih':=ih (f,sigs.length,nx) ⟨hW2,hres,by simp only;omega⟩ (by simp only;omega)
           repeat' (first|(apply z07;(first|refine z0a (zgr (kt:=9) (et:=3) (ks:=sigs) (by kernel_rfl) rfl rfl (by decide)) ?_|refine z0r ?_))|(apply z08;(first|refine z0p ?_|apply z09))|(apply z05;(first|apply z06|apply z00|apply z04|apply z01|apply z03|refine z0f (fun _=>?_) (fun _=>?_)| refine z0l ?_)))
           all_goals exact zD18
end Go.Proofs.YthdfkabdoidjfaaGreatDoor
