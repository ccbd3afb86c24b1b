/- A part. -/
import Derived.Test.YtonhfccmeammbaaGreatDoorVTC
set_option linter.all false
open Go.Proofs.Tryz
namespace Go.Proofs.YtonhfccmeammbaaGreatDoor
open Go.Ab
set_option maxHeartbeats 20000000
attribute [local irreducible] Run Ops Op1 z1z Val Tr z0q z1v NF Rel
inductive Grp(n:Int):Int→List Node→Prop
 | nil:Grp n 0 []
 | top {at_:Int} {ns:List Node} {b e:Int} {s:Str}:Grp n at_ ns→at_≤b→b<e→e≤n→s.size≤10→Grp n e (ns++[⟨s,b,e,-1⟩])
 | both {at_:Int} {ns:List Node} {b e m me:Int} {s t:Str}:Grp n at_ ns→at_≤b→b<e→e≤n→s.size≤10→b≤m→m<me→me≤e→t.size≤10→Grp n e (ns++[⟨s,b,e,-1⟩]++[⟨t,m,me,ns.length⟩])
def zth:List Str:=[⟨#[83]⟩,⟨#[78,80]⟩]
def zzt:List Str:=[⟨#[78,80]⟩,⟨#[86,80]⟩]
theorem zhs:∀s∈zth,s.size≤10:=by simp only[zth,zAc,List.not_mem_nil,or_false];rintro s (rfl|rfl) <;> decide
theorem zrr:∀s∈zzt,s.size≤10:=by simp only[zzt,zAc,List.not_mem_nil,or_false];rintro s (rfl|rfl) <;> decide
theorem zyl(l:List Int)(k:Nat)(A X R:D)(ts:List (List Str))(hl:l.length≤120)(hk:k≤120)(hn:0<ts.length∧ts.length≤1000) :
 Rel prog 51 [.ptr (0,500) 0,.ptr (0,8) 0] [((0,500),z2u l k),((0,8),.box [.d A,.d (.slice (ts.map fun t=>[strs t])),.d X,.d R,.d (.lit z1t),.d (.lit z1t),.d (.lit z1t)])]
  (fun x:List Node × Int × Nat=>Grp ts.length x.2.1 x.1∧x.1.length≤2000∧x.2.2≤120) (fun _=>.tup [])
  (fun x=>[((0,500),z2u l x.2.2),((0,8),.box [.d A,.d (.slice (ts.map fun t=>[strs t])),.d X,.d R,.d (.slice (x.1.map Node.cs)),.d (.lit z1t),.d (.lit z1t)])]):=by
 refine zfd fun H hH=>?_
 have hH0:=hH ((0,500),z2u l k) (by simp)
 have hH1:=hH ((0,8),_) (List.mem_cons_of_mem _ (List.mem_cons_self))
 refine z0g func51 (by kernel_rfl) rfl (by simp) ?_
 dsimp only[f51]
 refine z57 500 0 500 hH0 rfl rfl ?_
 refine z57 501 0 8 (by simp only[upd];rw[zAy (by simp)];exact hH1) rfl rfl ?_
 refine z0d (tm':=[(0,.ptr (0,500) 0),(1,.ptr (0,501) 0),(100500,.al (0,500) (1,500)),(100501,.al (0,501) (1,8))]) (hp':=[(500,z2u l k),(501,.box [.d A,.d (.slice (ts.map fun t=>[strs t])),.d X,.d R,.d (.lit z1t),.d (.lit z1t),.d (.lit z1t)])]) ?_ rfl rfl
 refine z4q 501 4 600 55 4 rfl rfl rfl rfl ?_
 repeat' first|(apply z05;first|refine z0n ?_| (apply z0a;refine z02 z16 rfl rfl ?_)|(apply z0c;refine z02 z0i rfl rfl ?_)|(apply z0s;refine z02 (z0w rfl) rfl rfl ?_)|(apply z0j;refine z6f (zej l k 4 500 hl hk (by decide)) rfl rfl (by decide) ?_;rintro⟨v0,kt0⟩ ⟨hv1,hv2,hv3⟩;simp only at hv1 hv2 hv3⊢))|(apply z06;first|refine z0m ?_|apply z09)|(apply z07;first|apply z08|apply z00|apply z01)
 refine z0r ?_
 refine z0d (z1o (fun q:Int × Int × List Node × Nat=>⟨100,[(0,.ptr (0,500) 0),(1,.ptr (0,501) 0),(4,I .i64 ts.length),(5,I .i64 q.2.1),(6,I .i64 q.1),(100500,.al (0,500) (1,500)),(100501,.al (0,501) (1,8))],[(600,.row 55 4 (q.2.2.1.map Node.cs)),(500,z2u l q.2.2.2),(501,.box [.d A,.d (.slice (ts.map fun t=>[strs t])),.d X,.d R,.ref (0,600),.d (.lit z1t),.d (.lit z1t)])],upd (upd H (0,500) .gone) (0,8) .gone⟩)
  (fun q=>0≤q.1∧q.1≤4∧0≤q.2.1∧q.2.1≤ts.length∧Grp ts.length q.2.1 q.2.2.1∧q.2.2.1.length≤2*(4-q.1)∧q.2.2.2≤120) (fun q=>q.1.toNat) ?_ ⟨v0,0,[],kt0⟩ ⟨hv1,by simp only;omega,by simp only;omega,by simp only;omega,.nil,by simp only[List.length_nil];omega,hv3⟩) rfl rfl
 intro⟨c,p,ns,kt⟩ ⟨h1,h2,h3,h4,h5,h6,h7⟩ ih
 simp only at h1 h2 h3 h4 h5 h6 h7 ih⊢
 by_cases hlt:0<c∧p<ts.length
 ·repeat' (first|(apply z05;first|refine z0n ?_| (apply z0a;refine z02 z16 rfl rfl ?_)|(apply z0c;refine z02 z0i rfl rfl ?_)|(apply z0t;first|refine z02 (z0z (y13 (by have h0:=tn0 (l:=l) (k:=z2b l kt4) (n:=(p+v1+1+v2-(p+v1+v4))) (by omega);omega) (by have h0:=tn1 (l:=l) (k:=z2b l kt4) (n:=(p+v1+1+v2-(p+v1+v4))) (by omega);omega))) rfl rfl ?_| refine z02 (z0z z1h) rfl rfl ?_| refine z02 (z2l z1h) rfl rfl ?_)|(apply z0s;refine z02 (z47 rfl) rfl rfl ?_)|(apply z0j;first|(refine z6f (zej l kt 2 500 hl h7 (by decide)) rfl rfl (by decide) ?_;rintro⟨v1,kt1⟩ ⟨hu1,hw1,hx1⟩;simp only at hu1 hw1 hx1⊢)|(refine z6f (zej l kt1 ((ts.length:Int)-(p+v1)) 500 hl hx1 (by omega)) rfl rfl (by decide) ?_;rintro⟨v2,kt2⟩ ⟨hu2,hw2,hx2⟩;simp only at hu2 hw2 hx2⊢)|(refine z6f (zej l (z2b l kt2) 2 500 hl (z5y hl hx2) (by decide)) rfl rfl (by decide) ?_;rintro⟨v3,kt3⟩ ⟨hu3,hw3,hx3⟩;simp only at hu3 hw3 hx3⊢)|(refine z6f (zej l kt3 (p+v1+1+v2-(p+v1)) 500 hl hx3 (by omega)) rfl rfl (by decide) ?_;rintro⟨v4,kt4⟩ ⟨hu4,hw4,hx4⟩;simp only at hu4 hw4 hx4⊢)))|(apply z06;first|refine z0m ?_|apply z09|refine z1g ?_| refine z1p (fun _=>?_) fun _=>?_)|(apply z07;first|apply z08|apply z00|refine z15 ?_| apply z04|apply z01|apply z2o|apply z03|refine z0h (fun _=>?_) (fun _=>?_)| refine z0o ?_)|(apply z2m;first|(apply z1e;refine z2c mix ?_)|refine z2w ?_| (apply z0v;first|refine z0x z16 rfl rfl ?_| refine z0x z2f rfl rfl ?_)|(apply z0u;refine z0x z0i rfl rfl ?_)|(apply z1i;first|refine z0x (z3k rfl (tn0 (by decide)) (z6h (z3z (l:=zth) (tn0 (by decide)) (Int.lt_of_lt_of_le (tn1 (by decide)) (by decide)))) rfl) rfl rfl ?_| refine z0x (z3k rfl (tn0 (by decide)) (z6h (z3z (l:=zzt) (tn0 (by decide)) (Int.lt_of_lt_of_le (tn1 (by decide)) (by decide)))) rfl) rfl rfl ?_)|(apply z3p;first|refine z0x (z0z (y13 (by have h0:=tn0 (l:=l) (k:=z2b l kt4) (n:=(p+v1+1+v2-(p+v1+v4))) (by omega);omega) (by have h0:=tn1 (l:=l) (k:=z2b l kt4) (n:=(p+v1+1+v2-(p+v1+v4))) (by omega);omega))) rfl rfl ?_| refine z0x (z2l z1h) rfl rfl ?_)|(apply z3v;first|refine zao (by first|exact rfl|exact⟨_,rfl,rfl,rfl⟩) rfl rfl (⟨atL zzt (z4v l kt4 2),p+v1+v4,p+v1+v4+1+z4v l (z2b l kt4) (p+v1+1+v2-(p+v1+v4)),(ns.length:Int)⟩:Node) rfl rfl rfl rfl rfl rfl rfl (by decide) (by simp;omega) ?_|refine zao (by first|exact rfl|exact⟨_,rfl,rfl,rfl⟩) rfl rfl (⟨atL zth (z4v l kt2 2),p+v1,p+v1+1+v2,-1⟩:Node) rfl rfl rfl rfl rfl rfl rfl (by decide) (by omega) ?_)|(apply z1s;first|refine znc (z8w l kt2 2 0 500 hl hx2 (by decide)) (by first|exact rfl|exact⟨_,rfl,rfl,rfl⟩) rfl rfl (by decide) ?_|refine znc (z8w l kt4 2 0 500 hl hx4 (by decide)) (by first|exact rfl|exact⟨_,rfl,rfl,rfl⟩) rfl rfl (by decide) ?_|refine znc (z8w l (z2b l kt4) (p+v1+1+v2-(p+v1+v4)) 0 500 hl (z5y hl hx4) (by omega)) (by first|exact rfl|exact⟨_,rfl,rfl,rfl⟩) rfl rfl (by decide) ?_)|(apply z2r;refine z5w (by first|exact rfl|exact⟨_,rfl,rfl,rfl⟩) rfl rfl rfl rfl rfl ?_)|(apply zap;refine zds (by first|exact rfl|exact⟨_,rfl,rfl,rfl⟩) rfl rfl rfl rfl rfl rfl rfl (by decide) ?_)|(apply z6y;first|refine z7w (ys:=zzt.map fun x=>[z6o x]) rfl ?_| refine z7w (ys:=zth.map fun x=>[z6o x]) rfl ?_| refine z7w rfl ?_)))
  all_goals try omega
  all_goals try (refine z1f 600 rfl ?_;refine z3s 501 0 8 (raw:=.box [.d A,.d (.slice (ts.map fun t=>[strs t])),.d X,.d R,.d (.slice (ns.map Node.cs)),.d (.lit z1t),.d (.lit z1t)]) rfl rfl rfl rfl rfl ?_;refine z3s 500 0 500 (raw:=z2u l kt1) rfl rfl rfl rfl rfl ?_;exact zcc func51 _ (z4j rfl) ⟨(ns,p,kt1),⟨h5,by simp only;omega,hx1⟩,rfl,zsn H _ _⟩)
  all_goals try (refine z4n 61 600 rfl rfl ?_;exact z0d (ih ⟨c-1,p+v1+1+v2,ns++[(⟨atL zth (z4v l kt2 2),p+v1,p+v1+1+v2,-1⟩:Node)],kt3⟩ ⟨(by simp only;omega),(by simp only;omega),(by simp only;omega),(by simp only;omega),.top (b:=p+v1) (e:=p+v1+1+v2) h5 (by omega) (by omega) (by omega) (zhs _ (zge (l:=zth) (tn0 (by decide)) (Int.lt_of_lt_of_le (tn1 (by decide)) (by decide)))),by simp only[zAa,zAk,List.length_nil];omega,hx3⟩ (by simp only;omega)) rfl rfl)
  all_goals try (have ha0:=tn0 (l:=l) (k:=z2b l kt4) (n:=(p+v1+1+v2-(p+v1+v4))) (by omega);have ha1:=tn1 (l:=l) (k:=z2b l kt4) (n:=(p+v1+1+v2-(p+v1+v4))) (by omega);refine z4n 96 600 rfl rfl ?_;exact z0d (ih ⟨c-1,p+v1+1+v2,ns++[(⟨atL zth (z4v l kt2 2),p+v1,p+v1+1+v2,-1⟩:Node)]++[(⟨atL zzt (z4v l kt4 2),p+v1+v4,p+v1+v4+1+z4v l (z2b l kt4) (p+v1+1+v2-(p+v1+v4)),(ns.length:Int)⟩:Node)],z2b l (z2b l kt4)⟩ ⟨(by simp only;omega),(by simp only;omega),(by simp only;omega),(by simp only;omega),.both (b:=p+v1) (e:=p+v1+1+v2) (m:=p+v1+v4) (me:=p+v1+v4+1+z4v l (z2b l kt4) (p+v1+1+v2-(p+v1+v4))) h5 (by omega) (by omega) (by omega) (zhs _ (zge (l:=zth) (tn0 (by decide)) (Int.lt_of_lt_of_le (tn1 (by decide)) (by decide)))) (by omega) (by omega) (by omega) (zrr _ (zge (l:=zzt) (tn0 (by decide)) (Int.lt_of_lt_of_le (tn1 (by decide)) (by decide)))),by simp only[zAa,zAk,List.length_nil];omega,z5y hl (z5y hl hx4)⟩ (by simp only;omega)) rfl rfl)
 ·repeat' (first|(apply z05;refine z0n ?_)|(apply z06;first|refine z0m ?_|apply z09|refine z1g ?_| refine z1p (fun _=>?_) fun _=>?_)|(apply z07;first|apply z08|apply z00|refine z15 ?_| apply z04|apply z01|refine z0h (fun _=>?_) (fun _=>?_)| refine z0o ?_))
  all_goals try omega
  all_goals try (refine z1f 600 rfl ?_;refine z3s 501 0 8 (raw:=.box [.d A,.d (.slice (ts.map fun t=>[strs t])),.d X,.d R,.d (.slice (ns.map Node.cs)),.d (.lit z1t),.d (.lit z1t)]) rfl rfl rfl rfl rfl ?_;refine z3s 500 0 500 (raw:=z2u l kt) rfl rfl rfl rfl rfl ?_;exact zcc func51 _ (z4j rfl) ⟨(ns,p,kt),⟨h5,by simp only;omega,h7⟩,rfl,zsn H _ _⟩)
end Go.Proofs.YtonhfccmeammbaaGreatDoor
namespace Go.Proofs.YtonhfccmeammbaaGreatDoor
open Go.Ab
set_option maxHeartbeats 2000000
attribute [local irreducible] Run Ops Op1 z1z Val Tr z0q z1v NF Rel
variable{f:FuncId}{R:z4b}{k:List Item}{all:Array Oper}{l':List Oper}{n:Nat}{tm:List (Nat × PV)}{hp:Hp}{up:Hf}{d:Nat}{ty:TypeId}{pos:String}{aft:Array Edge}{gd:Option (Nat × Bool)}{args:List Operand}{ats:Array TypeId}
theorem zt3{l:List Int}{kt ms:Nat}{x:Int}(hl:l.length≤120)(hev:St.evs ⟨n,tm,hp,up⟩ args=some [.ptr (0,ms) 0,I .i64 x])(hb:Ab.look hp ms=some (z2u l kt))(hd:d<n)
 (hx:0<x∧x≤9223372036854775807) (hk:kt≤120) (h:0≤z4v l kt x→z4v l kt x<x→z2b l kt≤120→Ops prog f R all l' k ⟨n,(d,I .i64 (z4v l kt x))::tm,(ms,z2u l (z2b l kt))::hp,up⟩) :
 Op1 prog f R all ⟨some d,.call ⟨.value (.func 26),args.toArray,ats⟩,ty,pos,aft,gd⟩ l' k ⟨n,tm,hp,up⟩ :=
 za1 (z8w l kt x 0 ms hl hk (by omega)) hev hb hd (h (tn0 hx.1) (tn1 hx.1) (z5y hl hk))
theorem y0x{id:Nat}{ops:List Oper}{s0:St}{done:List Eff}{gr:List (Nat × PV)}{l:List Int}{kt ms:Nat}{x:Int}(hl:l.length≤120)(hg:GOK ops.toArray gd gr ⟨n,tm,hp,up⟩)(hev:St.evs ⟨n,tm,hp,up⟩ args=some [.ptr (0,ms) 0,I .i64 x])(hb:Ab.look hp ms=some (z2u l kt))(hd:d<n)
 (hx:0<x∧x≤9223372036854775807) (hk:kt≤120)
 (h:0≤z4v l kt x→z4v l kt x<x→z2b l kt≤120→Tr prog f R id ops k s0 (done++[⟨gr++rd (args.zip [.ptr (0,ms) 0,I .i64 x]),[((0,ms),z2u l kt)],[],[(d,I .i64 (z4v l kt x))],[((0,ms),z2u l (z2b l kt))]⟩]) ⟨n,(d,I .i64 (z4v l kt x))::tm,(ms,z2u l (z2b l kt))::hp,up⟩ l') :
 Tr prog f R id ops k s0 done ⟨n,tm,hp,up⟩ (⟨some d,.call ⟨.value (.func 26),args.toArray,ats⟩,ty,pos,aft,gd⟩::l') :=
 znc (z8w l kt x 0 ms hl hk (by omega)) hg hev hb hd (h (tn0 hx.1) (tn1 hx.1) (z5y hl hk))
end Go.Proofs.YtonhfccmeammbaaGreatDoor
namespace Go.Proofs.YtonhfccmeammbaaGreatDoor
open Go.Ab
set_option maxHeartbeats 20000000
attribute [local irreducible] Run Ops Op1 z1z Val Tr z0q z1v NF Rel z4v z2b
def zte:List Int:=[0,1,0,2,3,4,1,5]
def znq:List Str:=[⟨#[49]⟩,⟨#[50]⟩,⟨#[]⟩]
def y1d:List Str:=[⟨#[49]⟩,⟨#[50]⟩]
def SmQ(l:List zf0):Prop:=l.length≤10∧∀p∈l,p.name.size≤10∧p.value.size≤10
structure Doc(most:Int)(c:z10):Prop where
 attrs:c.attrs=z7n
 tok0:0<c.tokens.length
 tok1:(c.tokens.length:Int)≤most
 tok:∀t∈c.tokens,t.length=3∧∀v∈t,v.size≤10
 ntexts:c.texts.length≤10
 text:∀t∈c.texts,t.name.size≤10∧SmQ t.meta_∧0≤t.b∧t.b≤1000∧0≤t.e∧t.e≤1000
 nregs:c.regions.length≤10
 reg:∀x∈c.regions,x.type.size≤10∧SmQ x.keys∧0≤x.b∧x.b≤1000∧0≤x.e∧x.e≤1000
 nodes:∃at_,Grp c.tokens.length at_ c.nodes
 nnodes:c.nodes.length≤2000
 heads:z6e c.tokens.length c.heads c.rels
 rels:∀s∈c.rels,s.size≤10
 text0:0<c.texts.length
 span:∀t∈c.texts,t.b=0∧t.e=c.tokens.length
theorem SmQ.p{l:List zf0}(h:SmQ l):SmP l:=⟨by have:=h.1;omega,fun p hp=>by have:=h.2 p hp;omega⟩
def zzv(x:Region):Prop:=x.type.size≤10∧SmQ x.keys∧0≤x.b∧x.b≤1000∧0≤x.e∧x.e≤1000
theorem zp9:SmQ []:=⟨by simp,by simp⟩
theorem zr2{a b:Str}(ha:a.size≤10)(hb:b.size≤10):SmQ [⟨a,b⟩]:=⟨by simp,by intro p hp;simp only[zAc,List.not_mem_nil,or_false]at hp;subst hp;exact⟨ha,hb⟩⟩
theorem zoe:∀s∈znq,s.size≤10:=by simp only[znq,zAc,List.not_mem_nil,or_false];rintro s (rfl|rfl|rfl) <;> decide
theorem zq3:∀s∈y1d,s.size≤10:=by simp only[y1d,zAc,List.not_mem_nil,or_false];rintro s (rfl|rfl) <;> decide
theorem z7c{l:List Str}(h:∀s∈l,s.size≤10)(i:Int):(atL l i).size≤10:=by
 unfold atL
 rw[List.getD]
 cases hx:l[i.toNat]? with
 | none=>decide
 | some x=>exact h x (zA2 hx)
theorem znb:∀s∈zh0,s.size≤10:=by simp only[zh0,zAc,List.not_mem_nil,or_false];rintro s (rfl|rfl|rfl|rfl|rfl|rfl) <;> decide
theorem zpe:∀s∈zwp,s.size≤10:=by simp only[zwp,zAc,List.not_mem_nil,or_false];rintro s (rfl|rfl) <;> decide
theorem zog:∀s∈zi6,s.size≤10:=by simp only[zi6,zAc,List.not_mem_nil,or_false];rintro s (rfl|rfl|rfl|rfl) <;> decide
theorem zf5:∀s∈zpk,s.size≤10:=by simp only[zpk,zAc,List.not_mem_nil,or_false];rintro s (rfl|rfl|rfl) <;> decide
theorem zi8(i:Int):0≤oAt zte i∧oAt zte i<zh0.length:=by
 have hw:zh0.length=6:=rfl
 have h:∀x∈zte,0≤x∧x<6:=by simp only[zte,zAc,List.not_mem_nil,or_false];rintro x (rfl|rfl|rfl|rfl|rfl|rfl|rfl|rfl) <;> decide
 rw[hw,oAt,List.getD]
 cases hx:zte[i.toNat]? with
 | none=>decide
 | some x=>exact h x (zA2 hx)
def zkt(x:Int):List Str:=[atL zh0 (oAt zte (x % 8)),atL zwp (x / 8 % 2),atL zi6 (x / 12)]
theorem zug(x:Int):(zkt x).length=3∧∀v∈zkt x,v.size≤10:=by
 refine⟨by simp[zkt],?_⟩
 simp only[zkt,zAc,List.not_mem_nil,or_false]
 rintro v (rfl|rfl|rfl)
 ·exact z7c znb _
 ·exact z7c zpe _
 ·exact z7c zog _
theorem zkb{n:Nat}{hs:List Int}{rs:List Str}(hn:0<n)(h:z6e n hs rs):(zvn hs=.d (.lit z1t)∧zuy rs=.d (.lit z1t)∧hs=[]∧rs=[])∨(zvn hs=.d (ints hs)∧zuy rs=.d (strs rs)):=by
 rcases h with⟨rfl,rfl⟩|⟨h1,h2,_⟩
 ·exact .inl ⟨rfl,rfl,rfl,rfl⟩
 ·right
  cases hs with
  | nil=>simp at h1;omega
  | cons a b =>
   cases rs with
   | nil=>simp at h2;omega
   | cons c d=>exact⟨rfl,rfl⟩
theorem zzi{most:Int}{ts:List (List Str)}{tx:List Text}{rs:List Region}{ns:List Node}{hs:List Int}{rl:List Str}(n1:∃at_,Grp ts.length at_ ns)(n2:ns.length≤2000)(h3:∀t∈ts,t.length=3∧∀v∈t,v.size≤10)
 (h0:0<ts.length∧ts.length≤1000) (h1:(ts.length:Int)≤most) (h4:tx.length=1) (h5:∀t∈tx,t.name.size≤10∧SmQ t.meta_∧t.b=0∧t.e=ts.length) (g1:rs.length≤10) (g2:∀x∈rs,zzv x) (d1:z6e ts.length hs rl) (d2:∀s∈rl,s.size≤10) :
 Doc most ⟨z7n,ts,tx,rs,ns,hs,rl⟩:=⟨rfl,h0.1,h1,h3,by simp only;omega,fun t ht=>by have:=h5 t ht;exact⟨this.1,this.2.1,by omega,by omega,by omega,by omega⟩,g1,g2,n1,n2,d1,d2,by simp only;omega,fun t ht=>⟨(h5 t ht).2.2.1,(h5 t ht).2.2.2⟩⟩
theorem zfg(l:List Int)(k:Nat)(name:Str)(most:Int)(hl:l.length≤120)(hk:k≤120)(hm:1≤most∧most≤1000)(hname:name.size≤10) :
 Rel prog 25 [.ptr (0,500) 0,S name,I .i64 most] [((0,500),z2u l k)]
  (fun x:z10 × Nat=>Doc most x.1∧x.2≤120) (fun x=>x.1.d) (fun x=>[((0,500),z2u l x.2)]):=by
 refine zfd fun H hH=>?_
 have hH0:=hH ((0,500),z2u l k) (by simp)
 refine z0g func25 (by kernel_rfl) rfl (by simp) ?_
 dsimp only[f25]
 refine z57 500 0 500 hH0 rfl rfl ?_
 refine z0d (tm':=[(0,.ptr (0,500) 0),(1,S name),(2,I .i64 most),(100500,.al (0,500) (1,500))]) (hp':=[(500,z2u l k)]) ?_ rfl rfl
 repeat' first|(apply z05;first|refine z0n ?_| (apply z0t;refine z02 (z0z z1h) rfl rfl ?_)|(apply z0j;first|(refine zt3 hl rfl rfl (by decide) (by omega) (by assumption) fun _ _ _=>?_)|refine z29 zhz ?_)|(apply z0f;refine z25 ?_)|(apply z0l;refine z0b z2e ?_)|(apply z1n;refine zd1 rfl rfl rfl rfl rfl rfl (by decide) ?_)|(apply z3c;refine zi0 (ys:=[(⟨name,0,1+z4v l k most,[]⟩:Text)].map Text.cs) rfl rfl rfl rfl rfl rfl rfl rfl rfl (by decide) ?_))|(apply z06;first|refine z0m ?_|apply z09)|(apply z07;first|apply z08|apply z00|apply z04|apply z01|apply z2o|refine z0h (fun _=>?_) fun _=>?_)|(apply z2m;first|(apply z1e;refine z2c mix ?_)|refine z2w ?_| (apply z0v;first|refine z0x z16 rfl rfl ?_| refine z0x z2f rfl rfl ?_)|(apply z0u;first|refine z0x z0i rfl rfl ?_| refine z0x (z4k rfl rfl) rfl rfl ?_)|(apply z1i;first|refine z0x (z3k rfl (tn0 (by decide)) (z6h (z3z (l:=znq) (tn0 (by decide)) (Int.lt_of_lt_of_le (tn1 (by decide)) (by decide)))) rfl) rfl rfl ?_| refine z0x (z7h rfl (by omega) (by simp) rfl) rfl rfl ?_)|(apply z1s;refine y0x hl (by first|exact rfl|exact⟨_,rfl,rfl,rfl⟩) rfl rfl (by decide) (by omega) (by assumption) fun _ _ _=>?_)|(apply z2r;refine zep (⟨name,0,1+z4v l k most,[⟨⟨#[121,101,97,114]⟩,atL znq (z4v l (z2b l (z2b l k)) 3)⟩]⟩:Text) (by first|exact rfl|exact⟨_,rfl,rfl,rfl⟩) rfl rfl rfl rfl rfl rfl rfl rfl rfl ?_)|(apply zap;refine zds (by first|exact rfl|exact⟨_,rfl,rfl,rfl⟩) rfl rfl rfl rfl rfl rfl rfl (by decide) ?_)|(apply z6y;first|refine z7w (ys:=znq.map fun x=>[z6o x]) rfl ?_| refine z7w (ys:=[(⟨⟨#[121,101,97,114]⟩,atL znq (z4v l (z2b l (z2b l k)) 3)⟩:zf0)].map zf0.cs) rfl ?_))
 all_goals obtain⟨N,hN⟩:∃N,1+z4v l k most=N:=⟨_,rfl⟩
 all_goals simp only[hN]
 all_goals have hN0:1≤N∧N≤1000∧N≤most:=by omega
 all_goals refine z1f 26 rfl ?_
 all_goals refine z4q 8 1 600 30 1 rfl rfl rfl rfl ?_
 all_goals refine z0r ?_
 all_goals
  refine z0d (z1o (fun q:Nat × List (List Str) × List Text × Nat=>⟨177,[(0,.ptr (0,500) 0),(6,.ptr (0,6) 0),(7,I .i64 N),(8,.ptr (0,8) 0),(9,I .i64 q.1),(100500,.al (0,500) (1,500))],
   [(600,.row 30 1 (q.2.1.map fun t=>[strs t])),(500,z2u l q.2.2.2),(8,.box [.d (.slice (z7n.map Attr.cs)),.ref (0,600),.d (.slice (q.2.2.1.map Text.cs)),.d (.lit z1t),.d (.lit z1t),.d (.lit z1t),.d (.lit z1t)]),(6,.box [.d (.lit z1t),.d (.lit z1t),.d (.lit z1t),.d (.lit z1t),.d (.lit z1t),.d (.lit z1t),.d (.lit z1t)])],upd H (0,500) .gone⟩)
   (fun q=>(q.1:Int)≤N∧q.2.1.length=q.1∧(∀t∈q.2.1,t.length=3∧∀v∈t,v.size≤10)∧q.2.2.1.length=1∧(∀t∈q.2.2.1,t.name.size≤10∧SmQ t.meta_∧t.b=0∧t.e=N)∧q.2.2.2≤120)
   (fun q=>(N-q.1).toNat) ?_ ⟨0,[],_,_⟩ ⟨(by simp only;omega),rfl,(by intro t ht;cases ht),(by simp),?_,(by assumption)⟩) rfl rfl
 rotate_left
 ·intro t ht;simp only[zAc,List.not_mem_nil,or_false]at ht;subst ht;exact⟨hname,zr2 (by decide) (z7c zoe _),rfl,rfl⟩
 rotate_left
 ·intro t ht;simp only[zAc,List.not_mem_nil,or_false]at ht;subst ht;exact⟨hname,zp9,rfl,rfl⟩
 all_goals intro⟨i,ts,tx,kt⟩ ⟨h1,h2,h3,h4,h5,h6⟩ ih
 all_goals simp only at h1 h2 h3 h4 h5 h6 ih⊢
 all_goals by_cases hlt:(i:Int)<N
 case pos|pos =>
  repeat' first|(apply z05;first|refine z0n ?_| (apply z0t;refine z02 (z0z z1h) rfl rfl ?_)|(apply z0j;refine zt3 hl rfl rfl (by decide) (by omega) (by assumption) fun _ _ _=>?_))|(apply z06;first|refine z0m ?_|apply z09)|(apply z07;first|apply z08|apply z00|apply z04|apply z01|apply z2o|apply z03|refine z0h (fun _=>?_) (fun _=>?_)| refine z0o ?_)|(apply z2m;first|(apply z1e;refine z2c mix ?_)|refine z2w ?_| (apply z0v;first|refine z0x z16 rfl rfl ?_| refine z0x z2f rfl rfl ?_)|(apply z0u;refine z0x z0i rfl rfl ?_)|(apply z1i;refine z0x (z3k rfl (by omega) (z6h (zg8 (l:=zte) (by omega) (by have:zte.length=8:=rfl;omega))) rfl) rfl rfl ?_)|(apply z3p;first|refine z0x (zqb (by omega) (by omega)) rfl rfl ?_| refine z0x (y2d (by omega) (by omega) z1h) rfl rfl ?_)|(apply z3v;refine zao (by first|exact rfl|exact⟨_,rfl,rfl,rfl⟩) rfl rfl (zkt (z4v l kt 48)) rfl rfl rfl rfl rfl rfl rfl (by decide) (by omega) ?_)|(apply z1s;first|refine z5b (y40 (zi8 _).1 (zi8 _).2) ?_| refine y5b (y5q (by omega) (by have:zwp.length=2:=rfl;omega)) (by first|exact rfl|exact⟨_,rfl,rfl,rfl⟩) rfl (by decide) ?_|refine y5b (y3i (by omega) (by have:zi6.length=4:=rfl;omega)) (by first|exact rfl|exact⟨_,rfl,rfl,rfl⟩) rfl (by decide) ?_)|(apply z2r;refine z5w (by first|exact rfl|exact⟨_,rfl,rfl,rfl⟩) rfl rfl rfl rfl rfl ?_)|(apply z6y;first|refine z7w (ys:=(zkt (z4v l kt 48)).map fun x=>[z6o x]) rfl ?_| refine z7w (ys:=zte.map fun x=>[z2g x]) rfl ?_| refine z7w rfl ?_))
  all_goals try omega
  all_goals refine z4n 66 600 rfl rfl ?_
  all_goals exact z0d (ih ⟨i+1,ts++[zkt (z4v l kt 48)],tx,z2b l kt⟩ ⟨(by simp only;omega),(by simp only[zAa,zAk,List.length_nil];omega),(by intro t ht;rcases zAt.1 ht with ht|ht;exact h3 t ht;simp only[zAc,List.not_mem_nil,or_false]at ht;subst ht;exact zug _),h4,h5,(by assumption)⟩ (by simp only;omega)) rfl rfl
 case neg|neg =>
  obtain hiN:(i:Int)=N:=by omega
  refine z1f 600 rfl ?_
  repeat' first|(apply z05;first|refine z5f (d:=11) rfl rfl rfl (by decide) ?_|refine z0n ?_| (apply z0j;refine zt3 hl rfl rfl (by decide) (by omega) (by assumption) fun _ _ _=>?_))|(apply z06;first|refine z0m ?_|apply z09)|(apply z07;first|apply z08|apply z00|apply z04|apply z01|apply z2o|refine z0h (fun _=>?_) (fun _=>?_)| refine z0o ?_)|(apply z2m;first|refine z2w ?_| (apply z0v;refine z0x z16 rfl rfl ?_)|(apply z0u;refine z0x z0i rfl rfl ?_)|(apply z6y;refine z7w rfl ?_))
  all_goals try omega
  refine z0r ?_
  refine z0d (z1o (fun q:Int × List Region × Nat=>⟨177,[(0,.ptr (0,500) 0),(6,.ptr (0,6) 0),(7,I .i64 N),(8,.ptr (0,8) 0),(11,.ref (0,11)),(12,I .i64 q.1),(100500,.al (0,500) (1,500))],
   [(11,.row 84 4 (q.2.1.map Region.cs)),(500,z2u l q.2.2),(8,.box [.d (.slice (z7n.map Attr.cs)),.d (.slice (ts.map fun t=>[strs t])),.d (.slice (tx.map Text.cs)),.d (.lit z1t),.d (.lit z1t),.d (.lit z1t),.d (.lit z1t)]),(6,.box [.d (.lit z1t),.d (.lit z1t),.d (.lit z1t),.d (.lit z1t),.d (.lit z1t),.d (.lit z1t),.d (.lit z1t)])],upd H (0,500) .gone⟩)
   (fun q=>0≤q.1∧q.1≤5∧q.2.1.length≤5-q.1∧(∀x∈q.2.1,x.type.size≤10∧SmQ x.keys∧0≤x.b∧x.b≤1000∧0≤x.e∧x.e≤1000)∧q.2.2≤120)
   (fun q=>q.1.toNat) ?_ ⟨_,[],_⟩ ⟨(by assumption),(by simp only;omega),(by simp only[List.length_nil];omega),(by intro t ht;cases ht),(by assumption)⟩) rfl rfl
  intro⟨m,rg,ku⟩ ⟨g1,g2,g3,g4,g5⟩ ih2
  simp only at g1 g2 g3 g4 g5 ih2⊢
  by_cases hm0:0<m
  ·repeat' (first|(apply z05;first|refine z0n ?_| (apply z0a;refine z02 z2f rfl rfl ?_)|(apply z0c;refine z02 z0i rfl rfl ?_)|(apply z0k;refine z02 (z3k rfl (tn0 (by decide)) (z6h (z3z (l:=y1d) (tn0 (by decide)) (Int.lt_of_lt_of_le (tn1 (by decide)) (by decide)))) rfl) rfl rfl ?_)|(apply z0t;first|refine z02 (z0z z1h) rfl rfl ?_| refine z02 (z2l z1h) rfl rfl ?_)|(apply z0s;refine z02 (z47 rfl) rfl rfl ?_)|(apply z0j;first|(refine zt3 hl rfl rfl (by decide) (by omega) (by assumption) fun _ _ _=>?_)|refine z29 (zwm _) ?_)|(apply z0f;refine z25 ?_)|(apply z0l;refine z0b z2e ?_)|(apply z1n;refine zd1 rfl rfl rfl rfl rfl rfl (by decide) ?_)|(apply z3c;first|refine z3b (ys:=y1d.map fun x=>[z6o x]) rfl ?_| refine z3b rfl ?_))|(apply z06;first|refine z0m ?_|apply z09)|(apply z07;first|apply z08|apply z00|apply z04|apply z01|refine z0h (fun _=>?_) (fun _=>?_)| refine z0o ?_))
   all_goals try omega
   ·skip
    refine z0r ?_
    refine z0d (z1o (fun q:Nat × Bool × Region × Nat=>⟨177,[(0,.ptr (0,500) 0),(6,.ptr (0,6) 0),(7,I .i64 N),(8,.ptr (0,8) 0),(11,.ref (0,11)),(12,I .i64 m),(14,.ptr (0,14) 0),(15,B q.2.1),(101,.ref (0,11)),(102,I .i64 rg.length),(103,I .i64 q.1),(100500,.al (0,500) (1,500))],
     [(11,.row 84 4 (rg.map Region.cs)),(500,z2u l q.2.2.2),(14,.box [S q.2.2.1.type,I .i64 q.2.2.1.b,I .i64 q.2.2.1.e,.d (.slice (q.2.2.1.keys.map zf0.cs))]),(8,.box [.d (.slice (z7n.map Attr.cs)),.d (.slice (ts.map fun t=>[strs t])),.d (.slice (tx.map Text.cs)),.d (.lit z1t),.d (.lit z1t),.d (.lit z1t),.d (.lit z1t)]),(6,.box [.d (.lit z1t),.d (.lit z1t),.d (.lit z1t),.d (.lit z1t),.d (.lit z1t),.d (.lit z1t),.d (.lit z1t)])],upd H (0,500) .gone⟩)
     (fun q=>q.1≤rg.length∧zzv q.2.2.1∧q.2.2.2≤120) (fun q=>rg.length-q.1) ?_ ⟨0,false,⟨_,_,_,[⟨⟨#[110]⟩,atL y1d (z4v l (z2b l (z2b l (z2b l (z2b l ku)))) 2)⟩]⟩,_⟩ ⟨zAf _,⟨z7c zf5 _,zr2 (by decide) (z7c zq3 _),(by simp only;omega),(by simp only;omega),(by simp only;omega),(by simp only;omega)⟩,(by assumption)⟩) rfl rfl
    exact zD6
   ·refine z4q 14 3 601 82 2 rfl rfl rfl rfl ?_
    refine z1f 601 rfl ?_
    refine z0r ?_
    refine z0d (z1o (fun q:Nat × Bool × Region × Nat=>⟨177,[(0,.ptr (0,500) 0),(6,.ptr (0,6) 0),(7,I .i64 N),(8,.ptr (0,8) 0),(11,.ref (0,11)),(12,I .i64 m),(14,.ptr (0,14) 0),(15,B q.2.1),(101,.ref (0,11)),(102,I .i64 rg.length),(103,I .i64 q.1),(100500,.al (0,500) (1,500))],
     [(11,.row 84 4 (rg.map Region.cs)),(500,z2u l q.2.2.2),(14,.box [S q.2.2.1.type,I .i64 q.2.2.1.b,I .i64 q.2.2.1.e,.d (.slice (q.2.2.1.keys.map zf0.cs))]),(8,.box [.d (.slice (z7n.map Attr.cs)),.d (.slice (ts.map fun t=>[strs t])),.d (.slice (tx.map Text.cs)),.d (.lit z1t),.d (.lit z1t),.d (.lit z1t),.d (.lit z1t)]),(6,.box [.d (.lit z1t),.d (.lit z1t),.d (.lit z1t),.d (.lit z1t),.d (.lit z1t),.d (.lit z1t),.d (.lit z1t)])],upd H (0,500) .gone⟩)
     (fun q=>q.1≤rg.length∧zzv q.2.2.1∧q.2.2.2≤120) (fun q=>rg.length-q.1) ?_ ⟨0,false,⟨_,_,_,[]⟩,_⟩ ⟨zAf _,⟨z7c zf5 _,zp9,(by simp only;omega),(by simp only;omega),(by simp only;omega),(by simp only;omega)⟩,(by assumption)⟩) rfl rfl
    exact zD6
  ·refine z1f 11 rfl ?_
   have hts:0<ts.length∧ts.length≤1000:=by omega
   repeat' first|(apply z05;first|refine z0n ?_| (apply z0a;refine z02 z1y rfl rfl ?_)|(apply z0c;refine z02 z0i rfl rfl ?_)|(apply z0j;first|(refine zt3 hl rfl rfl (by decide) (by omega) (by assumption) fun _ _ _=>?_)|(refine z8h (znf rg (by omega) fun x hx=>(g4 x hx).2.1.p) rfl (by decide) (fun p hp=>?_);obtain⟨rs,⟨hrs,hrm⟩,rfl⟩:=hp)|(refine zw0 (zyl l _ _ _ _ ts hl (by assumption) hts) rfl rfl rfl (by decide) ?_;rintro⟨ns,at_,kt2⟩ ⟨n1,n2,n3⟩;simp only at n1 n2 n3⊢)|(refine zw0 (y0l l _ _ _ _ _ ts hl (by assumption) hts) rfl rfl rfl (by decide) ?_;rintro⟨hs,rl,kt3⟩ ⟨d1,d2,d3⟩;simp only at d1 d2 d3⊢;rcases zkb hts.1 d1 with⟨e1,e2,e3,e4⟩|⟨e1,e2⟩ <;> simp only[e1,e2]))|(apply z0f;refine z25 ?_))|(apply z06;first|refine z0m ?_|apply z09)|(apply z07;first|apply z08|apply z00|apply z04|apply z01|refine z0h (fun _=>?_) (fun _=>?_)| refine z0o ?_)
   all_goals try omega
   all_goals first
    | (refine z3s 500 0 500 (raw:=z2u l kt3) rfl rfl rfl rfl rfl ?_
       first
        | exact z0e func25 _ (z1x rfl rfl rfl rfl rfl rfl) ⟨(⟨z7n,ts,tx,rs,ns,hs,rl⟩,kt3),⟨zzi ⟨at_,n1⟩ n2 h3 hts (by omega) h4 (fun t ht=>by have:=h5 t ht;exact⟨this.1,this.2.1,this.2.2.1,by omega⟩) (by omega) (fun x hx=>g4 x (hrm x hx)) d1 d2,d3⟩,rfl,z3g _ _ _ _⟩
        | (subst e3;subst e4;exact z0e func25 _ (z1x rfl rfl rfl rfl rfl rfl) ⟨(⟨z7n,ts,tx,rs,ns,[],[]⟩,kt3),⟨zzi ⟨at_,n1⟩ n2 h3 hts (by omega) h4 (fun t ht=>by have:=h5 t ht;exact⟨this.1,this.2.1,this.2.2.1,by omega⟩) (by omega) (fun x hx=>g4 x (hrm x hx)) d1 d2,d3⟩,rfl,z3g _ _ _ _⟩))
    | (refine z3s 500 0 500 (raw:=z2u l (z2b l kt2)) rfl rfl rfl rfl rfl ?_
       exact z0e func25 _ (z1x rfl rfl rfl rfl rfl rfl) ⟨(⟨z7n,ts,tx,rs,ns,[],[]⟩,z2b l kt2),⟨zzi ⟨at_,n1⟩ n2 h3 hts (by omega) h4 (fun t ht=>by have:=h5 t ht;exact⟨this.1,this.2.1,this.2.2.1,by omega⟩) (by omega) (fun x hx=>g4 x (hrm x hx)) (.inl ⟨rfl,rfl⟩) (by intro s hs;cases hs),(by assumption)⟩,rfl,z3g _ _ _ _⟩)
end Go.Proofs.YtonhfccmeammbaaGreatDoor
namespace Go.Proofs.YtonhfccmeammbaaGreatDoor
open Go.Ab
set_option maxHeartbeats 2000000
def mid{α:Type}(A B:List α)(f:α→α)(j:Nat):List α:=A++((B.take j).map f++B.drop j)
theorem z8z{α:Type}(A B:List α)(f:α→α)(j:Nat):(mid A B f j).length=A.length+B.length:=by
 simp[mid];omega
theorem zk6{α:Type}{A B:List α}{f:α→α}{j:Nat}{x:α}(h:B[j]? =some x):(mid A B f j)[A.length+j]? =some x:=by
 have hj:j<B.length:=(zA1.1 h).1
 rw[mid,zAg (by omega),zAg (by simp;omega)]
 simp only[zA4,zAm,List.getElem?_drop]
 rw[←h];congr 1;omega
theorem zs9{α:Type}{A B:List α}{f:α→α}{j:Nat}{x:α}(h:B[j]? =some x):(mid A B f j).set (A.length+j) (f x)=mid A B f (j+1):=by
 have hj:j<B.length:=(zA1.1 h).1
 rw[mid,mid,List.set_append_right _ _ (by omega),List.set_append_right _ _ (by simp;omega)]
 have e:B.drop j=x::B.drop (j+1):=by
  rw[List.drop_eq_getElem_cons hj];congr 1;exact(zA1.1 h).2
 have e2:B.take (j+1)=B.take j++[x]:=by rw[List.take_add_one,h];rfl
 rw[e,e2]
 simp only[zA4,zAm,List.map_append,List.map_cons,List.map_nil,zAl]
 rw[show A.length+j-A.length-min j B.length=0 by omega]
 rfl
theorem zhe{α:Type}{A B:List α}{f:α→α}{j:Nat}{x y:α}(h:B[j]? =some x):((mid A B f j).set (A.length+j) y).set (A.length+j) (f x)=mid A B f (j+1):=by
 rw[List.set_set,zs9 h]
theorem zub{α:Type}{A B:List α}{f:α→α}{j:Nat}{x y z:α}(h:B[j]? =some x):(((mid A B f j).set (A.length+j) y).set (A.length+j) z).set (A.length+j) (f x)=mid A B f (j+1):=by
 rw[List.set_set,List.set_set,zs9 h]
theorem z9i{α:Type}{A B:List α}{f:α→α}{j:Nat}{y:α}(h:j<B.length):((mid A B f j).set (A.length+j) y)[A.length+j]? =some y :=
 zAp (by rw[z8z];omega)
theorem zjx{α:Type}{A B:List α}{f:α→α}{j:Nat}{y z:α}(h:j<B.length):(((mid A B f j).set (A.length+j) y).set (A.length+j) z)[A.length+j]? =some z:=by
 rw[List.set_set];exact z9i h
theorem zgi{α:Type}(A B:List α)(f:α→α):mid A B f B.length=A++B.map f:=by simp[mid]
def shT(n:Int)(t:Text):Text:=⟨t.name,t.b+n,t.e+n,t.meta_⟩
def shR(n:Int)(t:Region):Region:=⟨t.type,t.b+n,t.e+n,t.keys⟩
def shN(n m:Int)(t:Node):Node:=⟨t.label,t.b+n,t.e+n,if 0≤t.parent then t.parent+m else t.parent⟩
def shH(n:Int)(x:Int):Int:=if 0≤x then x+n else x
def zq4(A B:List Int)(f:Int→Int):Nat→List Int
 | 0=>A
 | k+1=>zq4 A B f k++[f (B.getD k 0)]
theorem zlq(A B:List Int)(f:Int→Int):∀k,(zq4 A B f k).length=A.length+k
 | 0=>rfl
 | k+1=>by rw[zq4,zAa,zlq A B f k];rfl
theorem zj5{A B:List Int}{f:Int→Int}{k:Nat}{x:Int}(h:B[k]? =some x):zq4 A B f (k+1)=zq4 A B f k++[f x]:=by
 rw[zq4,List.getD,h];rfl
theorem zin(A B:List Int)(f:Int→Int):∀k,k≤B.length→zq4 A B f k=A++(B.take k).map f
 | 0,_=>by simp[zq4]
 | k+1,h=>by
  obtain⟨x,hx⟩:∃x,B[k]? =some x:=⟨_,zA0 (by omega)⟩
  rw[zj5 hx,zin A B f k (by omega),List.take_add_one,hx];simp
theorem zu7(A B:List Int)(f:Int→Int):zq4 A B f B.length=A++B.map f:=by rw[zin _ _ _ _ (zAj _),List.take_length]
theorem zo2{c:z10}(h:∀x∈c.heads,-1≤x∧x≤1000000):∀x∈zam c,-1≤x∧x≤1000000:=by
 intro x hx
 unfold zam at hx
 split at hx
 ·exact h x hx
 ·have:=List.eq_of_mem_replicate hx;omega
theorem zms{c:z10}(h1:c.heads.length≤1000000)(h2:c.tokens.length≤1000000):(zam c).length≤1000000:=by
 unfold zam;split <;> (try simp only[zAr]) <;> omega
theorem zl7{c:z10}(h1:c.rels.length≤1000000)(h2:c.tokens.length≤1000000):(zhn c).length≤1000000:=by
 unfold zhn;split <;> (try simp only[zAr]) <;> omega
def cat(a b:z10):z10 where
 attrs:=a.attrs
 tokens:=a.tokens++b.tokens
 texts:=mid a.texts b.texts (shT a.tokens.length) b.texts.length
 regions:=mid a.regions b.regions (shR a.tokens.length) b.regions.length
 nodes:=mid a.nodes b.nodes (shN a.tokens.length a.nodes.length) b.nodes.length
 heads:=if 0<a.heads.length+b.heads.length then zq4 (zam a) (zam b) (shH a.tokens.length) (zam b).length else []
 rels:=if 0<a.heads.length+b.heads.length then zhn a++zhn b else []
def zwd:z10:=⟨[],[],[],[],[],[],[]⟩
def y2o(a b:z10)(p:PV):Prop:=(∃e,e≠0∧p=.tup [zwd.d,I .i64 e])∨p=.tup [(cat a b).d,I .i64 0]
end Go.Proofs.YtonhfccmeammbaaGreatDoor
namespace Go.Proofs.YtonhfccmeammbaaGreatDoor
open Go.Ab
set_option maxHeartbeats 2000000
structure Made(s:Nat)(c:z10):Prop where
 attrs:c.attrs=z7n
 tok0:0<c.tokens.length
 tok1:c.tokens.length≤10*s
 tok:∀t∈c.tokens,t.length=3∧∀v∈t,v.size≤10
 ntexts:c.texts.length≤10*s
 text:∀t∈c.texts,t.name.size≤10∧SmQ t.meta_∧0≤t.b∧t.b≤1000*s∧0≤t.e∧t.e≤1000*s
 nregs:c.regions.length≤10*s
 reg:∀x∈c.regions,x.type.size≤10∧SmQ x.keys∧0≤x.b∧x.b≤1000*s∧0≤x.e∧x.e≤1000*s
 nodes:∃at_,Grp c.tokens.length at_ c.nodes
 nnodes:c.nodes.length≤2000*s
 heads:z6e c.tokens.length c.heads c.rels
 rels:∀s∈c.rels,s.size≤10
 text0:0<c.texts.length
 span:∀t∈c.texts,0≤t.b∧t.b<t.e∧t.e≤c.tokens.length
theorem Doc.made{c:z10}{most:Int}(h:Doc most c)(hm:most≤7):Made 1 c :=
 ⟨h.attrs,h.tok0,by have:=h.tok1;omega,h.tok,by have:=h.ntexts;omega,fun t ht=>by have:=h.text t ht;exact⟨this.1,this.2.1,by omega,by omega,by omega,by omega⟩,by have:=h.nregs;omega,
  fun t ht=>by have:=h.reg t ht;exact⟨this.1,this.2.1,by omega,by omega,by omega,by omega⟩,h.nodes,by have:=h.nnodes;omega,h.heads,h.rels,h.text0,fun t ht=>by have:=h.span t ht;have:=h.tok0;omega⟩
theorem Grp.le{n a:Int}{ns:List Node}(h:Grp n a ns)(h0:0≤n):0≤a∧a≤n:=by
 induction h with
 | nil=>omega
 | top h1 h2 h3 h4 h5 ih=>omega
 | both h1 h2 h3 h4 h5 h6 h7 h8 h9 ih=>omega
theorem Grp.bounds{n a:Int}{ns:List Node}(h:Grp n a ns)(h0:0≤n):∀(i:Nat) (x:Node),ns[i]? =some x→x.label.size≤10∧0≤x.b∧x.b<x.e∧x.e≤n∧(x.parent=-1∨x.parent=(i:Int)-1)∧-1≤x.parent∧x.parent<i:=by
 induction h with
 | nil=>intro i x hx;simp at hx
 | @top at_ ns b e s h1 h2 h3 h4 h5 ih =>
  have:=h1.le h0
  intro i x hx
  by_cases hi:i<ns.length
  ·rw[zAb hi]at hx;exact ih i x hx
  ·rw[zAg (by omega)]at hx
   have hi2:=(zA1.1 hx).1
   simp only[zAk,List.length_nil]at hi2
   obtain rfl:i=ns.length:=by omega
   exact zD108
 | @both at_ ns b e m me s t h1 h2 h3 h4 h5 h6 h7 h8 h9 ih =>
  have:=h1.le h0
  intro i x hx
  by_cases hi:i<ns.length
  ·rw[zAl,zAb hi]at hx;exact ih i x hx
  ·rw[zAl,zAg (by omega)]at hx
   have hi2:=(zA1.1 hx).1
   simp only[zAk,List.length_nil,List.cons_append,List.nil_append]at hi2
   rcases(by omega:i=ns.length∨i=ns.length+1)with rfl|rfl
   ·exact zD108
   ·rw[show ns.length+1-ns.length=1 by omega]at hx
    simp at hx;subst hx
    exact⟨h9,by simp only;omega,by simp only;omega,by simp only;omega,.inr (by simp only;omega),by simp only;omega,by simp only;omega⟩
theorem Grp.more{n n' a:Int}{ns:List Node}(h:Grp n a ns)(hn:n≤n'):Grp n' a ns:=by
 induction h with
 | nil=>exact .nil
 | top h1 h2 h3 h4 h5 ih=>exact .top ih h2 h3 (by omega) h5
 | both h1 h2 h3 h4 h5 h6 h7 h8 h9 ih=>exact .both ih h2 h3 (by omega) h5 h6 h7 h8 h9
theorem zrw{n m:Int}{s:Str}{b e:Int}:shN n m ⟨s,b,e,-1⟩=⟨s,b+n,e+n,-1⟩:=rfl
theorem Grp.cat{n m:Int}{a a':Int}{ns ms:List Node}(h:Grp n a ns)(h':Grp m a' ms)(hn:0≤n)(hm:0≤m):∃q,Grp (n+m) q (ns++ms.map (shN n ns.length))∧(ms=[]→q≤a'+n)∧q≤a'+n:=by
 induction h' with
 | nil=>have:=h.le hn;exact⟨a,by simpa using h.more (by omega),fun _=>by omega,by omega⟩
 | @top at_ ms b e s h1 h2 h3 h4 h5 ih =>
  obtain⟨q,hq,_,hle⟩:=ih
  refine⟨e+n,?_,fun _=>by omega,by omega⟩
  have:=Grp.top (b:=b+n) (e:=e+n) (s:=s) hq (by omega) (by omega) (by omega) h5
  simpa[List.map_append,zrw,zAl]using this
 | @both at_ ms b e p pe s t h1 h2 h3 h4 h5 h6 h7 h8 h9 ih =>
  obtain⟨q,hq,_,hle⟩:=ih
  refine⟨e+n,?_,fun _=>by omega,by omega⟩
  have:=Grp.both (b:=b+n) (e:=e+n) (m:=p+n) (me:=pe+n) (s:=s) (t:=t) hq (by omega) (by omega) (by omega) h5 (by omega) (by omega) (by omega) h9
  have e2:shN n ns.length ⟨t,p,pe,ms.length⟩=⟨t,p+n,pe+n,((ns++ms.map (shN n ns.length)).length:Int)⟩:=by
   simp only[shN]
   rw[zAz (by omega)]
   simp only[zAa,zA4,Node.mk.injEq,true_and]
   omega
  simp only[List.map_append,List.map_cons,List.map_nil,zrw,e2]
  simpa[zAl]using this
theorem y3s{n:Nat}{ord:List Int}(h1:ord.length=n)(h2:ord.Nodup)(h3:∀x∈ord,0≤x∧x<n)(i:Nat)(hi:i<n):(i:Int)∈ord:=by
 by_cases h:(i:Int)∈ord
 ·exact h
 ·exfalso
  have hnd:((i::ord.map Int.toNat)).Nodup:=by
   refine List.nodup_cons.2 ⟨fun hm=>?_,?_⟩
   ·obtain⟨x,hx,e⟩:=List.mem_map.1 hm
    have:=h3 x hx
    exact h (by rw[show(i:Int)=x by omega];exact hx)
   ·have:(ord.map Int.toNat).Pairwise (· ≠·):=by
     rw[List.pairwise_map]
     refine List.Pairwise.imp_of_mem ?_ h2
     intro a b ha hb hab e
     have:=h3 a ha;have:=h3 b hb
     exact hab (by omega)
    exact this
  have:=nodup_lt_length n _ hnd (fun x hx=>by
   rcases zAc.1 hx with rfl|hx
   ·exact hi
   ·obtain⟨y,hy,rfl⟩:=List.mem_map.1 hx
    have:=h3 y hy;omega)
  simp at this;omega
theorem zfq{n:Nat}{c:z10}(hn:c.tokens.length=n)(h:z6e n c.heads c.rels):(zam c).length=n∧(zhn c).length=n∧∃ord:List Int,ord.length=n∧ord.Nodup∧(∀x∈ord,0≤x∧x<n) ∧
 ∀(p:Nat) (x:Int),ord[p]? =some x→∃h:Int,(zam c)[x.toNat]? =some h∧(h=-1∨∃q:Nat,q<p∧ord[q]? =some h):=by
 by_cases h0:0<c.heads.length
 ·rcases h with⟨e,_⟩|⟨h1,h2,h3⟩
  ·rw[e]at h0;simp at h0
  ·simp only[zam,zhn,zAz h0];exact⟨h1,h2,h3⟩
 ·simp only[zam,zhn,zAy h0]
  refine⟨by simp[hn],by simp[hn],(List.range n).map Int.ofNat,by simp,?_,?_,?_⟩
  ·show List.Pairwise _ _
   rw[List.pairwise_map]
   exact List.Pairwise.imp (fun hab e=>hab (Int.ofNat.inj e)) (List.nodup_range (n:=n))
  ·intro x hx
   obtain⟨y,hy,rfl⟩:=List.mem_map.1 hx
   have:=List.mem_range.1 hy
   simp only[Int.ofNat_eq_natCast];omega
  ·intro p x hx
   have hx':=zA2 hx
   obtain⟨y,hy,rfl⟩:=List.mem_map.1 hx'
   have:=List.mem_range.1 hy
   refine⟨-1,?_,.inl rfl⟩
   simp only[Int.ofNat_eq_natCast,zA9]
   rw[List.getElem?_replicate,zAz (by omega)]
theorem z6e.cat{a b:z10}(ha:z6e a.tokens.length a.heads a.rels)(hb:z6e b.tokens.length b.heads b.rels):z6e (a.tokens.length+b.tokens.length) (cat a b).heads (cat a b).rels:=by
 by_cases h0:0<a.heads.length+b.heads.length
 ·simp only[Proofs.YtonhfccmeammbaaGreatDoor.cat,zAz h0]
  obtain⟨a1,a2,oa,a3,a4,a5,a6⟩:=zfq rfl ha
  obtain⟨b1,b2,ob,b3,b4,b5,b6⟩:=zfq rfl hb
  generalize a.tokens.length=n at *
  generalize b.tokens.length=m at *
  rw[zu7]
  refine .inr ⟨by simp[a1,b1],by simp[a2,b2],oa++ob.map fun x=>x+(n:Int),by simp[a3,b3],?_,?_,?_⟩
  ·rw[List.nodup_append]
   refine⟨a4,?_,?_⟩
   ·show List.Pairwise _ _
    rw[List.pairwise_map]
    exact List.Pairwise.imp (fun hab e=>hab (by omega)) b4
   ·intro x hx y hy
    obtain⟨z,hz,rfl⟩:=List.mem_map.1 hy
    have:=a5 x hx;have:=b5 z hz;omega
  ·intro x hx
   rcases zAt.1 hx with hx|hx
   ·have:=a5 x hx;omega
   ·obtain⟨z,hz,rfl⟩:=List.mem_map.1 hx
    have:=b5 z hz;omega
  ·intro p x hx
   by_cases hp:p<n
   ·rw[zAb (by omega)]at hx
    have hr:=a5 x (zA2 hx)
    obtain⟨h,h1,h2⟩:=a6 p x hx
    refine⟨h,by rw[zAb (by omega)];exact h1,?_⟩
    rcases h2 with h2|⟨q,hq,h2⟩
    ·exact .inl h2
    ·exact .inr ⟨q,hq,by rw[zAb (by omega)];exact h2⟩
   ·rw[zAg (by omega),a3,zAd]at hx
    cases hz:ob[p-n]? with
    | none=>simp[hz]at hx
    | some z =>
     rw[hz]at hx;simp at hx;subst hx
     have hr:=b5 z (zA2 hz)
     obtain⟨h,h1,h2⟩:=b6 _ z hz
     refine⟨shH n h,?_,?_⟩
     ·rw[zAg (by omega),a1,zAd,show(z+(n:Int)).toNat-n=z.toNat by omega,h1];rfl
     ·rcases h2 with rfl|⟨q,hq,h2⟩
      ·exact .inl rfl
      ·have hh:=b5 h (zA2 h2)
       refine .inr ⟨q+n,by omega,?_⟩
       rw[zAg (by omega),a3,zAd,show q+n-n=q by omega,h2]
       simp only[Option.map_some,shH,zAz hh.1]
 ·simp only[Proofs.YtonhfccmeammbaaGreatDoor.cat,zAy h0]
  exact .inl ⟨rfl,rfl⟩
theorem Made.cat{s t:Nat}{a b:z10}(ha:Made s a)(hb:Made t b):Made (s+t) (cat a b):=by
 have e1:=ha.tok1
 have e2:=hb.tok1
 refine⟨ha.attrs,?_,?_,?_,?_,?_,?_,?_,?_,?_,?_,?_,?_,?_⟩
 ·simp only[Proofs.YtonhfccmeammbaaGreatDoor.cat,zAa];have:=ha.tok0;omega
 ·simp only[Proofs.YtonhfccmeammbaaGreatDoor.cat,zAa];omega
 ·intro x hx
  simp only[Proofs.YtonhfccmeammbaaGreatDoor.cat]at hx
  rcases zAt.1 hx with hx|hx
  ·exact ha.tok x hx
  ·exact hb.tok x hx
 ·simp only[Proofs.YtonhfccmeammbaaGreatDoor.cat,z8z];have:=ha.ntexts;have:=hb.ntexts;omega
 ·intro x hx
  simp only[Proofs.YtonhfccmeammbaaGreatDoor.cat,zgi]at hx
  rcases zAt.1 hx with hx|hx
  ·have:=ha.text x hx;exact⟨this.1,this.2.1,by omega,by omega,by omega,by omega⟩
  ·obtain⟨y,hy,rfl⟩:=List.mem_map.1 hx
   have:=hb.text y hy;exact⟨this.1,this.2.1,by simp only[shT];omega,by simp only[shT];omega,by simp only[shT];omega,by simp only[shT];omega⟩
 ·simp only[Proofs.YtonhfccmeammbaaGreatDoor.cat,z8z];have:=ha.nregs;have:=hb.nregs;omega
 ·intro x hx
  simp only[Proofs.YtonhfccmeammbaaGreatDoor.cat,zgi]at hx
  rcases zAt.1 hx with hx|hx
  ·have:=ha.reg x hx;exact⟨this.1,this.2.1,by omega,by omega,by omega,by omega⟩
  ·obtain⟨y,hy,rfl⟩:=List.mem_map.1 hx
   have:=hb.reg y hy;exact⟨this.1,this.2.1,by simp only[shR];omega,by simp only[shR];omega,by simp only[shR];omega,by simp only[shR];omega⟩
 ·obtain⟨p,hp⟩:=ha.nodes
  obtain⟨q,hq⟩:=hb.nodes
  obtain⟨r,hr,_⟩:=hp.cat hq (by omega) (by omega)
  refine⟨r,?_⟩
  simp only[Proofs.YtonhfccmeammbaaGreatDoor.cat,zgi,zAa]
  exact hr
 ·simp only[Proofs.YtonhfccmeammbaaGreatDoor.cat,z8z];have:=ha.nnodes;have:=hb.nnodes;omega
 ·have:=ha.heads.cat hb.heads
  rwa [show(Proofs.YtonhfccmeammbaaGreatDoor.cat a b).tokens.length=a.tokens.length+b.tokens.length by simp[Proofs.YtonhfccmeammbaaGreatDoor.cat]]
 ·intro x hx
  simp only[Proofs.YtonhfccmeammbaaGreatDoor.cat]at hx
  split at hx
  ·rcases zAt.1 hx with hx|hx
   ·unfold zhn at hx
    split at hx
    ·exact ha.rels x hx
    ·have:=List.eq_of_mem_replicate hx;subst this;decide
   ·unfold zhn at hx
    split at hx
    ·exact hb.rels x hx
    ·have:=List.eq_of_mem_replicate hx;subst this;decide
  ·cases hx
 ·simp only[Proofs.YtonhfccmeammbaaGreatDoor.cat,z8z];have:=ha.text0;omega
 ·intro x hx
  simp only[Proofs.YtonhfccmeammbaaGreatDoor.cat,zgi]at hx
  have hl:(Proofs.YtonhfccmeammbaaGreatDoor.cat a b).tokens.length=a.tokens.length+b.tokens.length:=by simp[Proofs.YtonhfccmeammbaaGreatDoor.cat]
  rw[hl]
  rcases zAt.1 hx with hx|hx
  ·have:=ha.span x hx;omega
  ·obtain⟨y,hy,rfl⟩:=List.mem_map.1 hx
   have:=hb.span y hy;simp only[shT];omega
theorem z6e.len{n:Nat}{hs:List Int}{rs:List Str}(h:z6e n hs rs):hs.length≤n∧rs.length≤n∧rs.length=hs.length∧(hs=[]∨hs.length=n):=by
 rcases h with⟨rfl,rfl⟩|⟨h1,h2,_⟩
 ·simp
 ·omega
theorem z6e.range{n:Nat}{hs:List Int}{rs:List Str}(h:z6e n hs rs):∃rank:Nat→Nat,∀(i:Nat) (h:Int),hs[i]? =some h→h=-1∨(0≤h∧h.toNat<n∧rank h.toNat<rank i∧rank i<n):=by
 rcases h with⟨rfl,rfl⟩|⟨h1,h2,ord,o1,o2,o3,o4⟩
 ·exact⟨fun _=>0,fun i h hi=>by simp at hi⟩
 ·refine⟨fun i=>ord.idxOf (i:Int),fun i h hi=>?_⟩
  have hi':i<n:=by have:=(zA1.1 hi).1;omega
  have hm:=y3s o1 o2 o3 i hi'
  have hp:ord[ord.idxOf (i:Int)]? =some (i:Int):=by
   have:=List.idxOf_lt_length_of_mem hm
   rw[zA0 this];simp
  obtain⟨h',e1,e2⟩:=o4 _ _ hp
  rw[zA9,hi]at e1
  simp at e1;subst e1
  rcases e2 with e2|⟨q,hq,e2⟩
  ·exact .inl e2
  ·have hr:=o3 h (zA2 e2)
   have hql:=(zA1.1 e2).1
   refine .inr ⟨hr.1,by omega,?_,by have:=List.idxOf_lt_length_of_mem hm;simp only;omega⟩
   have:ord.idxOf ((h.toNat:Nat):Int)=q:=by
    rw[show((h.toNat:Nat):Int)=h by omega]
    have hm':=zA2 e2
    have hlt:=List.idxOf_lt_length_of_mem hm'
    have e3:=(zA1.1 e2).2
    have e4:ord[ord.idxOf h]=h:=by simp
    exact(List.getElem_inj o2).1 (e4.trans e3.symm)
   simp only[this];exact hq
theorem Made.wf{s:Nat}{c:z10}(h:Made s c)(hs:s≤10):Wf c :=
 ⟨by have:=h.tok1;omega,h.tok0,h.heads.len.2.2.1,h.heads.len.2.2.2,h.heads.range⟩
theorem zx9:∀a∈z7n,a.name.size≤1000000:=by simp only[z7n,zAc,List.not_mem_nil,or_false];rintro s (rfl|rfl|rfl) <;> decide
theorem Made.small{s:Nat}{c:z10}(h:Made s c)(hs:s≤10):Small c:=by
 have h1:=h.tok1
 have h2:=h.heads.len
 obtain⟨a,ha⟩:=h.nodes
 refine⟨by omega,by have:=h.ntexts;omega,?_,by have:=h.nregs;omega,by have:=h.nnodes;omega,by omega,by omega,?_,?_,?_,?_,?_,?_⟩
 ·rw[h.attrs];decide
 ·rw[h.attrs];exact zx9
 ·intro t ht;have:=h.tok t ht;exact⟨by omega,fun v hv=>by have:=this.2 v hv;omega⟩
 ·intro t ht;have:=h.text t ht;exact⟨by omega,this.2.1.p,by omega,by omega,by omega,by omega⟩
 ·intro t ht;have:=h.reg t ht;exact⟨by omega,this.2.1.p,by omega,by omega,by omega,by omega⟩
 ·intro x hx
  obtain⟨i,hi⟩:=zAw hx
  have:=ha.bounds (by omega) i x hi
  have:=h.nnodes
  have:=(zA1.1 hi).1
  exact⟨by omega,by omega,by omega,by omega,by omega,by omega,by omega⟩
 ·intro x hx;have:=h.rels x hx;omega
end Go.Proofs.YtonhfccmeammbaaGreatDoor
