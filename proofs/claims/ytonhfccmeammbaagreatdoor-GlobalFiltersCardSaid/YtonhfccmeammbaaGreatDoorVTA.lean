/- A part. -/
import Derived.Test.YtonhfccmeammbaaGreatDoorVt
set_option linter.all false
open Go.Proofs.Tryz
namespace Go.Proofs.YtonhfccmeammbaaGreatDoor
open Go.Ab
def ints(l:List Int):D:=.slice (l.map fun x=>[z2g x])
def strs(l:List Str):D:=.slice (l.map fun x=>[z6o x])
structure Attr where
 name:Str
 set:Bool
structure zf0 where
 name:Str
 value:Str
structure Text where
 name:Str
 b:Int
 e:Int
 meta_:List zf0
structure Region where
 type:Str
 b:Int
 e:Int
 keys:List zf0
structure Node where
 label:Str
 b:Int
 e:Int
 parent:Int
structure z10 where
 attrs:List Attr
 tokens:List (List Str)
 texts:List Text
 regions:List Region
 nodes:List Node
 heads:List Int
 rels:List Str
def Attr.cs(a:Attr):List D:=[z6o a.name,zji a.set]
def zf0.cs(a:zf0):List D:=[z6o a.name,z6o a.value]
def Text.cs(a:Text):List D:=[z6o a.name,z2g a.b,z2g a.e,.slice (a.meta_.map zf0.cs)]
def Region.cs(a:Region):List D:=[z6o a.type,z2g a.b,z2g a.e,.slice (a.keys.map zf0.cs)]
def Node.cs(a:Node):List D:=[z6o a.label,z2g a.b,z2g a.e,z2g a.parent]
def z10.cs(c:z10):List D:=[.slice (c.attrs.map Attr.cs),.slice (c.tokens.map fun t=>[strs t]),.slice (c.texts.map Text.cs),.slice (c.regions.map Region.cs),.slice (c.nodes.map Node.cs),ints c.heads,strs c.rels]
abbrev z10.d(c:z10):PV:=.d (.agg c.cs)
def token(c:z10)(i:Int):Bool:=decide (0≤i)&&decide (i<c.tokens.length)
def IsB(p:PV):Prop:=∃b:Bool,p=B b
def IsI(p:PV):Prop:=∃i:Int,p=I .i64 i
def y14(p:PV):Prop:=∃i e:Int,p=.tup [I .i64 i,I .i64 e]
attribute [local irreducible] Run Ops Op1 z1z Val Tr z0q z1v
def head(c:z10)(i:Int):Int:=match c.heads[i.toNat]? with
 | some h=>if token c h then h else -1
 | none=> -1
def z8f(c:z10):Nat→Int→List Int
 | 0,_=>[]
 | n+1,i=>if 0≤i then i::z8f c n (head c i)else []
def up(c:z10)(i:Int):List Int:=if token c i then z8f c c.tokens.length (head c i)else []
theorem z9w(c:z10)(i:Int):(up c i).length≤c.tokens.length:=by
 have:∀n j,(z8f c n j).length≤n:=fun n=>by
  induction n with
  | zero=>intro j;simp[z8f]
  | succ n ih=>intro j;simp only[z8f];split <;> simp[ih]
 simp only[up];split <;> simp[this]
end Go.Proofs.YtonhfccmeammbaaGreatDoor
namespace Go.Proofs.YtonhfccmeammbaaGreatDoor
open Go.Ab
structure Wf(c:z10):Prop where
 tok:c.tokens.length≤1000
 tok0:0<c.tokens.length
 rel:c.rels.length=c.heads.length
 hd:c.heads=[]∨c.heads.length=c.tokens.length
 acyc:∃rank:Nat→Nat,∀(i:Nat) (h:Int),c.heads[i]? =some h→h=-1∨(0≤h∧h.toNat<c.tokens.length∧rank h.toNat<rank i∧rank i<c.tokens.length)
theorem z2p(c:z10)(i:Int):token c i=true↔0≤i∧i<c.tokens.length:=by simp[token]
theorem zbu{c:z10}(h:Wf c){i:Int}(hi:0≤i):head c i=-1∨token c (head c i)=true:=by
 unfold head
 split
 ·split
  ·rename_i h1;exact .inr h1
  ·exact .inl rfl
 ·exact .inl rfl
theorem zxe{c:z10}(h:Wf c):∃rank:Nat→Nat,∀i:Int,0≤i→head c i=-1∨(token c (head c i)=true∧rank (head c i).toNat<rank i.toNat∧rank i.toNat<c.tokens.length):=by
 obtain⟨rank,hr⟩:=h.acyc
 refine⟨rank,fun i hi=>?_⟩
 rcases zbu h hi with h1|h1
 ·exact .inl h1
 ·have hne:head c i≠-1:=fun e=>by rw[e]at h1;simp[token]at h1
  cases hq:c.heads[i.toNat]? with
  | none=>simp[head,hq]at hne
  | some x =>
   have hx:head c i=x:=by
    simp only[head,hq]at hne⊢
    split
    ·rfl
    ·rename_i h2;simp[h2]at hne
   rw[hx]at h1⊢
   rcases hr _ _ hq with e|⟨a,b,d,e⟩
   ·exact .inl e
   ·exact .inr ⟨h1,d,e⟩
theorem zk3{c:z10}{rank:Nat→Nat}(hr:∀i:Int,0≤i→head c i=-1∨(token c (head c i)=true∧rank (head c i).toNat<rank i.toNat∧rank i.toNat<c.tokens.length)) :
 ∀(n m:Nat) (i:Int),(i=-1∨(0≤i∧rank i.toNat<n∧rank i.toNat<m))→z8f c n i=z8f c m i:=by
 intro n
 induction n with
 | zero =>
  intro m i hi
  rcases hi with rfl|⟨_,h,_⟩
  ·cases m <;> simp[z8f]
  ·omega
 | succ n ih =>
  intro m i hi
  rcases hi with rfl|⟨h0,h1,h2⟩
  ·cases m <;> simp[z8f]
  ·cases m with
   | zero=>omega
   | succ m =>
    simp only[z8f,h0,if_true]
    congr 1
    refine ih m _ ?_
    rcases hr i h0 with h|⟨h,h',_⟩
    ·exact .inl h
    ·rw[z2p]at h
     exact .inr ⟨h.1,by omega,by omega⟩
theorem zaf{c:z10}(h:Wf c){i:Int}(hi:token c i=true):up c i=if head c i=-1 then []else head c i::up c (head c i):=by
 obtain⟨rank,hr⟩:=zxe h
 have h0:=((z2p c i).1 hi).1
 simp only[up,hi,if_true]
 rcases hr i h0 with h1|⟨h1,h2,h3⟩
 ·rw[h1]
  obtain⟨n,hn⟩:∃n,c.tokens.length=n+1:=⟨c.tokens.length-1,by have:=h.tok0;omega⟩
  rw[hn];simp[z8f]
 ·have hh:=(z2p c _).1 h1
  have hne:head c i≠-1:=by omega
  rw[zAy hne,h1,zAz rfl]
  obtain⟨n,hn⟩:∃n,c.tokens.length=n+1:=⟨c.tokens.length-1,by have:=h.tok0;omega⟩
  rw[hn,z8f,zAz hh.1,←hn]
  congr 1
  refine zk3 hr _ _ _ ?_
  rcases hr _ hh.1 with h4|⟨h4,h5,_⟩
  ·exact .inl h4
  ·exact .inr ⟨((z2p c _).1 h4).1,by omega,by omega⟩
theorem zyu{c:z10}{i:Int}(hi:token c i=false):up c i=[]:=by simp[up,hi]
theorem zft{c:z10}(h:Wf c){i:Int}(hi:0≤i)(hn:head c i≠-1):token c (head c i)=true:=by
 rcases zbu h hi with e|e
 ·exact absurd e hn
 ·exact e
attribute [local irreducible] Run Ops Op1 z1z Val Tr z0q z1v
def zha(c:z10)(i:Int):Str:=match c.rels[i.toNat]? with
 | some r=>r
 | none=>⟨#[]⟩
def ztt(x n:Int):Int:=if n<1 then 0 else x % n
theorem zf3{x n:Int}(h:1≤n):0≤ztt x n∧ztt x n<n:=by
 simp only[ztt,zAy (show ¬n<1 by omega)]
 exact⟨Int.emod_nonneg _ (by omega),Int.emod_lt_of_pos _ (by omega)⟩
theorem zvv{x n:Int}(hn:0<n):x.tmod n=if x % n=0 then 0 else if x<0 then x % n-n else x % n:=by
 have h1:=Int.tmod_eq_emod (a:=x) (b:=n)
 rw[h1]
 have h0:=Int.emod_nonneg x (show n≠0 by omega)
 by_cases hd:n ∣ x
 ·have:x % n=0:=Int.emod_eq_zero_of_dvd hd
  simp[this,hd]
 ·have:x % n≠0:=fun e=>hd (Int.dvd_of_emod_eq_zero e)
  by_cases hx:x<0
  ·have:¬0≤x:=by omega
   simp[*];omega
  ·have:0≤x:=by omega
   simp[*]
theorem y32(x n:Int)(hn:-9223372036854775808≤n∧n≤9223372036854775807):z0q prog 17 [I .i64 x,I .i64 n] (I .i64 (ztt x n)):=by
 refine z0y fun H=>?_
 refine z0g func17 (by kernel_rfl) rfl (by simp) ?_
 dsimp only[f17]
 by_cases hn1:n<1
 ·repeat' (first|(apply z05;refine z0n ?_)|(apply z06;first|refine z0m ?_|apply z09)|(apply z07;first|apply z08|apply z00|apply z04|refine z0h (fun _=>?_) fun _=>?_))
  ·refine z0e func17 _ z0p ⟨?_,rfl⟩
   simp[ztt,hn1]
  ·omega
 ·have h0:=Int.emod_nonneg x (show n≠0 by omega)
  have h1:=Int.emod_lt_of_pos x (show 0<n by omega)
  have ht:=zvv (x:=x) (n:=n) (by omega)
  have hb:-n<x.tmod n∧x.tmod n<n:=by rw[ht];split <;> (try split) <;> omega
  repeat' first|(apply z05;first|refine z0n ?_| (apply z0t;first|refine z02 (y1q (by omega)) rfl rfl ?_| refine z02 (z0z z1h) rfl rfl ?_))|(apply z06;first|refine z0m ?_|apply z09)|(apply z07;first|apply z08|apply z00|apply z04|refine z0h (fun _=>?_) fun _=>?_)
  ·omega
  ·rename_i hneg
   refine z0e func17 _ z0p ⟨?_,rfl⟩
   have:x.tmod n+n=x % n:=by rw[ht]at hneg⊢;split at hneg <;> (try split at hneg) <;> simp_all <;> omega
   simp[ztt,hn1,this]
  ·rename_i hneg
   refine z0e func17 _ z0p ⟨?_,rfl⟩
   have:x.tmod n=x % n:=by rw[ht]at hneg⊢;split at hneg <;> (try split at hneg) <;> simp_all <;> omega
   simp[ztt,hn1,this]
attribute [local irreducible] NF Rel
def zfi(b:Bool):Int:=if b then -1 else 1
theorem zqz(b:Bool):z0q prog 111 [B b] (I .i64 (zfi b)):=by
 refine z0y fun H=>?_
 refine z0g func111 (by kernel_rfl) rfl (by simp) ?_
 dsimp only[f111]
 cases b <;> repeat' first|(apply z05;refine z0n ?_)|(apply z06;first|refine z0m ?_|apply z09)|(apply z07;first|apply z08|apply z00|refine z1j ?_| refine z15 ?_| apply z04)
 all_goals exact z0e func111 _ z0p ⟨rfl,rfl⟩
def zie(a b:Str):Int:=if Op.bytesLess a.toList b.toList then -1 else if Op.bytesLess a.toList b.toList||decide (a=b)then 0 else 1
theorem zif(a b:Str):z0q prog 112 [S a,S b] (I .i64 (zie a b)):=by
 refine z0y fun H=>?_
 refine z0g func112 (by kernel_rfl) rfl (by simp) ?_
 dsimp only[f112]
 repeat' first|(apply z05;first|refine z0n ?_| (apply z0t;first|refine z02 y33 rfl rfl ?_| refine z02 y2c rfl rfl ?_))|(apply z06;first|refine z0m ?_|apply z09)|(apply z07;first|apply z08|apply z00|apply z04|apply z01|apply z03|refine z2q rfl (fun _=>?_) fun _=>?_)
 all_goals refine z0e func112 _ z0p ⟨?_,rfl⟩
 all_goals simp_all [zie]
theorem zr6(b:UInt8):NF prog 163 [I .u8 b.toNat] IsB:=by
 refine z5u fun H=>?_
 refine z0g func163 (by kernel_rfl) rfl (by simp) ?_
 dsimp only[f163]
 repeat' first|(apply z05;refine z0n ?_)|(apply z06;first|refine z0m ?_|apply z09|refine z1g ?_| refine z7t rfl rfl (by decide) ?_|refine z1p (fun _=>?_) fun _=>?_)|(apply z07;first|apply z08|apply z00)
 all_goals exact z0e func163 _ z0p ⟨_,rfl,⟨_,rfl⟩,rfl⟩
theorem zwb(b:UInt8):NF prog 164 [I .u8 b.toNat] IsB:=by
 refine z5u fun H=>?_
 refine z0g func164 (by kernel_rfl) rfl (by simp) ?_
 dsimp only[f164]
 repeat' first|(apply z05;first|refine z0n ?_| (apply z0j;refine z8h (zr6 _) rfl (by decide) (fun p hp=>?_);obtain⟨_,rfl⟩:=hp))|(apply z06;first|refine z0m ?_|apply z09|refine z1g ?_| refine z7t rfl rfl (by decide) ?_|refine z1p (fun _=>?_) (fun _=>?_)| refine zci rfl rfl (fun _=>?_) fun _=>?_)|(apply z07;first|apply z08|apply z00)
 all_goals exact z0e func164 _ z0p ⟨_,rfl,⟨_,rfl⟩,rfl⟩
theorem zo6{s:Str}{i:Int}(h0:0≤i)(h:i<s.size):∃b,s[i.toNat]? =some b:=⟨_,getElem?_pos s i.toNat (by omega)⟩
set_option maxHeartbeats 2000000
structure z8a where
 r:Int
 at_:Int
 size:Int
 ok:Bool
def z8a.cs(u:z8a):List D:=[.lit (.int .i32 u.r),z2g u.at_,z2g u.size,zji u.ok]
def zyp(m:Nat)(p:PV):Prop:=∃us:List z8a,us.length≤m∧p=.d (.slice (us.map z8a.cs))
theorem zg2{α:Type}(l:List α):l=[]∨∃q x,l=q++[x]:=zic l
theorem zdb{α:Type}(q:List α)(x:α){i:Int}(h:i=((q++[x]).length:Int)-1):(q++[x])[i.toNat]? =some x:=by
 have:i.toNat=q.length:=by rw[h];simp
 rw[this];simp
theorem zn9{α:Type}(q:List α)(x y:α){i:Int}(h:i=((q++[x]).length:Int)-1):(q++[x]).set i.toNat y=q++[y]:=by
 have:i.toNat=q.length:=by rw[h];simp
 rw[this];simp
theorem zcu(s:ByteArray)(pos:Nat)(h:pos<s.size):1≤(Utf8.decode s pos).2:=by
 by_cases ha:(s[pos]'h).toNat<128
 ·rw[decode_ascii s pos h ha]
  exact zAj _
 ·exact(decode_high s pos h (by omega)).2
theorem zv3(s:Str)(hs:s.size≤1000000):NF prog 104 [S s] (zyp s.size):=by
 refine z5u fun H=>?_
 refine z0g func104 (by kernel_rfl) rfl (by simp) ?_
 dsimp only[f104]
 repeat' first|(apply z05;first|refine z5f rfl rfl rfl (by decide) ?_|refine z0n ?_| refine zaj rfl rfl rfl (by decide) ?_)|(apply z06;first|refine z0m ?_|apply z09)|(apply z07;first|apply z08|apply z00|apply z01)
 refine z0r ?_
 refine z0d (z1o (fun q:List z8a × Nat=>⟨81,[(0,S s),(3,.ref (0,3)),(8,.ptr (0,8) 0)],[(3,.row 137 4 (q.1.map z8a.cs)),(8,.siter s q.2)],H⟩)
  (fun q=>q.1.length≤q.2∧q.1.length≤s.size∧∀u∈q.1,0≤u.at_∧u.at_≤s.size) (fun q=>s.size-q.2) ?_ ([],0) ⟨by simp,by simp,by simp⟩) rfl rfl
 intro⟨us,at_⟩ ⟨h1,h2,h3⟩ ih
 simp only at h1 h2 h3 ih⊢
 by_cases hlt:at_<s.size
 ·have hw:=zcu s at_ hlt
  rcases zg2 us with rfl|⟨vs,u,rfl⟩
  ·repeat' (first|(apply z05;first|refine z0n ?_| (apply z0s;first|refine z7l rfl rfl (z8a.mk (Utf8.decode s at_).1 at_ 0 false) rfl rfl rfl rfl rfl rfl rfl (by decide) (by simp <;> omega) ?_|refine z02 (z47 rfl) rfl rfl ?_)|(apply z1n;refine z2y ?_)|(apply z3c;refine z3b rfl ?_)|refine z3e hlt rfl rfl (by decide) ?_)|(apply z06;first|refine z0m ?_|apply z09)|(apply z07;first|apply z08|apply z00|refine z1j ?_| refine z15 ?_| apply z04|apply z01|apply z03))
   refine z4n 36 3 rfl rfl ?_
   refine z0d (ih ([z8a.mk (Utf8.decode s at_).1 at_ 0 false],at_+(Utf8.decode s at_).2) ⟨by simp;omega,by simp;omega,by simp;omega⟩ (by simp;omega)) rfl rfl
  ·have hu:=h3 u (by simp)
   have hl:(vs++[u]).length=vs.length+1:=by simp
   repeat' first|(apply z05;first|refine z0n ?_| (apply z0a;refine z02 (z23 (zdb _ _ rfl) rfl rfl rfl) rfl rfl ?_)|(apply z0c;refine z02 (z4k rfl rfl) rfl rfl ?_)|(apply z0k;refine z02 (z4r rfl (by simp;omega)) rfl rfl ?_)|(apply z0t;refine z02 (z2l z1h) rfl rfl ?_)|(apply z0s;first|refine z7l rfl rfl (z8a.mk (Utf8.decode s at_).1 at_ 0 false) rfl rfl rfl rfl rfl rfl rfl (by decide) (by simp <;> omega) ?_|refine z02 (z47 rfl) rfl rfl ?_)|(apply z0f;refine z22 {u with size:=at_-u.at_} rfl rfl rfl rfl (zdb _ _ rfl) rfl rfl (by rfl) (zn9 _ _ _ rfl) ?_)|(apply z1n;refine z2y ?_)|(apply z3c;refine z3b rfl ?_)|refine z3e hlt rfl rfl (by decide) ?_)|(apply z06;first|refine z0m ?_|apply z09)|(apply z07;first|apply z08|apply z00|refine z1j ?_| apply z04|apply z01|apply z03|refine z0h (fun _=>?_) fun _=>?_)
   ·refine z4n 36 3 rfl rfl ?_
    refine z0d (ih (vs++[{u with size:=at_-u.at_}]++[z8a.mk (Utf8.decode s at_).1 at_ 0 false],at_+(Utf8.decode s at_).2) ⟨by simp;omega,by simp;omega,fun w hw=>?_⟩ (by simp;omega)) rfl rfl
    simp only[zAt,zAq,or_assoc]at hw
    rcases hw with hw|rfl|rfl
    ·exact h3 w (by simp[hw])
    ·exact hu
    ·simp;omega
   ·rename_i h;simp at h
 ·rcases zg2 us with rfl|⟨vs,u,rfl⟩
  ·repeat' (first|(apply z05;first|refine z0n ?_| (apply z0s;refine z02 (z47 rfl) rfl rfl ?_)|refine z3f hlt rfl rfl (by decide) ?_)|(apply z06;first|refine z0m ?_|apply z09)|(apply z07;first|apply z08|apply z00|refine z15 ?_| apply z04|apply z01|refine z0o ?_))
   refine z0r ?_
   refine z1u ?_
   repeat' first|(apply z05;refine z0n ?_)|(apply z06;first|refine z0m ?_|apply z09)|(apply z07;first|apply z08|apply z00|refine z15 ?_| refine z0o ?_)
   refine z1f 3 rfl ?_
   exact z0e func104 _ z0p ⟨_,rfl,⟨[],by simp,rfl⟩,rfl⟩
  ·have hu:=h3 u (by simp)
   have hl:(vs++[u]).length=vs.length+1:=by simp
   repeat' first|(apply z05;first|refine z0n ?_| (apply z0a;refine z02 (z23 (zdb _ _ rfl) rfl rfl rfl) rfl rfl ?_)|(apply z0c;refine z02 (z4k rfl rfl) rfl rfl ?_)|(apply z0k;refine z02 (z4r rfl (by simp;omega)) rfl rfl ?_)|(apply z0t;refine z02 (z2l z1h) rfl rfl ?_)|(apply z0s;first|refine z02 (z63 rfl) rfl rfl ?_| refine z02 (z47 rfl) rfl rfl ?_)|(apply z0f;refine z22 {u with size:=s.size-u.at_} rfl rfl rfl rfl (zdb _ _ rfl) rfl rfl (by rfl) (zn9 _ _ _ rfl) ?_)|refine z3f hlt rfl rfl (by decide) ?_)|(apply z06;first|refine z0m ?_|apply z09)|(apply z07;first|apply z08|apply z00|refine z15 ?_| apply z04|apply z01|refine z0h (fun _=>?_) (fun _=>?_)| refine z0o ?_)
   ·rename_i h0
    refine z0r ?_
    refine z0d (z1o (fun q:List z8a × Nat=>⟨81,[(3,.ref (0,3)),(57,I .i64 (vs++[{u with size:=s.size-u.at_}]:List z8a).length),(58,I .i64 q.2)],[(3,.row 137 4 (q.1.map z8a.cs))],H⟩)
     (fun q=>q.1.length=(vs++[{u with size:=s.size-u.at_}]:List z8a).length∧q.2≤q.1.length) (fun q=>q.1.length-q.2) ?_ (vs++[{u with size:=s.size-u.at_}],0) ⟨rfl,zAf _⟩) rfl rfl
    intro⟨xs,k⟩ ⟨e1,e2⟩ ih2
    simp only at e1 e2 ih2⊢
    have hL:xs.length≤s.size:=by rw[e1];simpa using h2
    by_cases hlk:k<xs.length
    ·obtain⟨x,hx⟩:∃x,xs[k]? =some x:=⟨_,zA0 hlk⟩
     have hx2:xs[((k:Nat):Int).toNat]? =some x:=by simpa using hx
     repeat' first|(apply z05;first|refine z0n ?_| (apply z0a;refine z02 (z23 hx2 rfl rfl rfl) rfl rfl ?_)|(apply z0c;refine z02 (z4k rfl rfl) rfl rfl ?_)|(apply z0k;refine z02 (z4r rfl (by simp;omega)) rfl rfl ?_)|(apply z0t;refine z02 (z0z z1h) rfl rfl ?_)|(apply z0f;first|refine z22 (z8a.mk x.r x.at_ x.size true) (by rfl) (by rfl) (by rfl) (by rfl) hx2 (by rfl) (by rfl) (by rfl) (by rfl) ?_|refine z22 (z8a.mk x.r x.at_ x.size (decide (x.size=3))) (by rfl) (by rfl) (by rfl) (by rfl) hx2 (by rfl) (by rfl) (by rfl) (by rfl) ?_))|(apply z06;first|refine z0m ?_|apply z09|refine z1g ?_| refine z39 rfl rfl (fun _=>?_) fun _=>?_)|(apply z07;first|apply z08|apply z00|apply z04|apply z01|apply z03|refine z0h (fun _=>?_) (fun _=>?_)| refine z0o ?_)
     all_goals first
      | exact z0d (ih2 (xs.set ((k:Nat):Int).toNat (z8a.mk x.r x.at_ x.size true),k+1) ⟨by simpa using e1,by simp;omega⟩ (by simp;omega)) rfl rfl
      | exact z0d (ih2 (xs.set ((k:Nat):Int).toNat (z8a.mk x.r x.at_ x.size (decide (x.size=3))),k+1) ⟨by simpa using e1,by simp;omega⟩ (by simp;omega)) rfl rfl
      | omega
    ·repeat' (first|(apply z05;first|refine z0n ?_| (apply z0c;refine z02 (z4k rfl rfl) rfl rfl ?_)|(apply z0k;refine z02 (z4r rfl (by simp;omega)) rfl rfl ?_))|(apply z06;first|refine z0m ?_|apply z09)|(apply z07;first|apply z08|apply z00|apply z04|apply z01|refine z0h (fun _=>?_) (fun _=>?_)| refine z0o ?_))
     ·omega
     ·refine z1f 3 rfl ?_
      exact z0e func104 _ z0p ⟨_,rfl,⟨xs,by have:=h2;simp at this e1;omega,rfl⟩,rfl⟩
   ·rename_i h0;simp at h0
def SmP(l:List zf0):Prop:=l.length≤1000000∧∀p∈l,p.name.size≤1000000∧p.value.size≤1000000
structure Small(c:z10):Prop where
 toks:c.tokens.length≤1000000
 ntexts:c.texts.length≤1000000
 nattrs:c.attrs.length≤1000000
 nregs:c.regions.length≤1000000
 nnodes:c.nodes.length≤1000000
 nheads:c.heads.length≤1000000
 nrels:c.rels.length≤1000000
 attr:∀a∈c.attrs,a.name.size≤1000000
 tok:∀t∈c.tokens,t.length≤1000000∧∀v∈t,v.size≤1000000
 text:∀t∈c.texts,t.name.size≤1000000∧SmP t.meta_∧0≤t.b∧t.b≤1000000∧0≤t.e∧t.e≤1000000
 reg:∀x∈c.regions,x.type.size≤1000000∧SmP x.keys∧0≤x.b∧x.b≤1000000∧0≤x.e∧x.e≤1000000
 node:∀x∈c.nodes,x.label.size≤1000000∧0≤x.b∧x.b≤1000000∧0≤x.e∧x.e≤1000000∧-1≤x.parent∧x.parent≤1000000
 rel:∀x∈c.rels,x.size≤1000000
def y6t(p:PV):Prop:=∃(x:D) (e:Int),p=.tup [.d x,I .i64 e]
theorem z5t(s:Str)(hs:s.size≤1000000):NF prog 138 [S s] IsB:=by
 refine z5u fun H=>?_
 refine z0g func138 (by kernel_rfl) rfl (by simp) ?_
 dsimp only[f138]
 repeat' first|(apply z05;first|refine z0n ?_| (apply z9p;refine z02 (z7i rfl (by omega) (zo6 (by omega) (by omega)).choose_spec) rfl rfl ?_)|(apply z0s;refine z02 (z63 rfl) rfl rfl ?_)|(apply z0j;refine z8h (zr6 _) rfl (by decide) (fun p hp=>?_);obtain⟨_,rfl⟩:=hp))|(apply z06;first|refine z0m ?_|apply z09|refine z1g ?_| refine z1p (fun _=>?_) fun _=>?_)|(apply z07;first|apply z08|apply z00|refine z1j ?_| apply z04|apply z01|refine z2q rfl (fun _=>?_) fun _=>?_)
 all_goals try first|exact z0e func138 _ z0p ⟨_,rfl,⟨_,rfl⟩,rfl⟩|omega|(exfalso;simp_all;done)
 all_goals
  refine z0r ?_
  refine z0d (z1o (fun k1:Nat=>⟨29,[(0,PV.lift 1 (S s)),(3,I .i64 (k1:Nat))],[],H⟩) (fun k1:Nat=>1≤k1∧k1≤s.size+1) (fun k1:Nat=>s.size+1-k1) ?_ 1 (by omega)) rfl rfl
  intro k1 hk1 ih1
  by_cases hlt1:k1<s.size
  case pos =>
   repeat' first|(apply z05;first|refine z0n ?_| (apply z9p;refine z02 (z7i rfl (by omega) (zo6 (by omega) (by omega)).choose_spec) rfl rfl ?_)|(apply z0t;refine z02 (z0z z1h) rfl rfl ?_)|(apply z0s;refine z02 (z63 rfl) rfl rfl ?_)|(apply z0j;refine z8h (zwb _) rfl (by decide) (fun p hp=>?_);obtain⟨_,rfl⟩:=hp))|(apply z06;first|refine z0m ?_|apply z09)|(apply z07;first|apply z08|apply z00|apply z04|apply z01|apply z03|refine z0h (fun _=>?_) (fun _=>?_)| refine z2q rfl (fun _=>?_) (fun _=>?_)|refine z0o ?_)
   all_goals try first|exact z0e func138 _ z0p ⟨_,rfl,⟨_,rfl⟩,rfl⟩|exact z0d (ih1 (k1+1) (by omega) (by omega)) rfl rfl|omega|(exfalso;simp_all;done)
  case neg =>
   repeat' first|(apply z05;first|refine z0n ?_| (apply z9p;refine z02 (z7i rfl (by omega) (zo6 (by omega) (by omega)).choose_spec) rfl rfl ?_)|(apply z0t;refine z02 (z0z z1h) rfl rfl ?_)|(apply z0s;refine z02 (z63 rfl) rfl rfl ?_)|(apply z0j;refine z8h (zwb _) rfl (by decide) (fun p hp=>?_);obtain⟨_,rfl⟩:=hp))|(apply z06;first|refine z0m ?_|apply z09)|(apply z07;first|apply z08|apply z00|apply z04|apply z01|apply z03|refine z0h (fun _=>?_) (fun _=>?_)| refine z2q rfl (fun _=>?_) (fun _=>?_)|refine z0o ?_)
   all_goals try first|exact z0e func138 _ z0p ⟨_,rfl,⟨_,rfl⟩,rfl⟩|omega|(exfalso;simp_all;done)
theorem zvi(hh:List Int)(i:Int)(h1:hh.length≤1000000)(h0:0≤i)(hi:i<hh.length):NF prog 144 [.d (ints hh),I .i64 i] IsB:=by
 refine z5u fun H=>?_
 refine z0g func144 (by kernel_rfl) rfl (by simp) ?_
 dsimp only[f144]
 repeat' first|(apply z05;first|refine z0n ?_| (apply z0s;refine z02 (z0w rfl) rfl rfl ?_))|(apply z06;first|refine z0m ?_|apply z09)|(apply z07;first|apply z08|apply z00|apply z01)
 all_goals try first|exact z0e func144 _ z0p ⟨_,rfl,⟨_,rfl⟩,rfl⟩|omega|(exfalso;simp_all;done)
 all_goals
  refine z0r ?_
  refine z0d (z1o (fun q:Nat × Int=>⟨27,[(0,PV.lift 1 (PV.d (ints hh))),(1,PV.lift 1 (I IntKind.i64 i)),(5,I .i64 q.2),(8,I IntKind.i64 ↑hh.length),(9,I .i64 (q.1:Nat))],[],H⟩) (fun q:Nat × Int=>q.1≤hh.length∧0≤q.2∧q.2<hh.length) (fun q:Nat × Int=>hh.length-q.1) ?_ ⟨0,_⟩ ⟨zAf _,h0,hi⟩) rfl rfl
  intro⟨k1,m1_5⟩ hk1 ih1
  simp only at hk1 ih1⊢
  by_cases hlt1:k1<hh.length
  case pos =>
   obtain⟨x1,hx1⟩:∃x,hh[m1_5.toNat]? =some x:=⟨_,zA0 (by omega)⟩
   repeat' first|(apply z05;first|refine z0n ?_| (apply z0a;refine z02 z2f rfl rfl ?_)|(apply z0k;refine z02 (z1a rfl (z6h hx1)) rfl rfl ?_)|(apply z0t;refine z02 (z0z z1h) rfl rfl ?_)|(apply z0s;refine z02 (z0w rfl) rfl rfl ?_))|(apply z06;first|refine z0m ?_|apply z09|refine z1g ?_| refine z1p (fun _=>?_) fun _=>?_)|(apply z07;first|apply z08|apply z00|refine z1j ?_| apply z04|apply z01|apply z03|refine z0h (fun _=>?_) (fun _=>?_)| refine z0o ?_)
   all_goals try first|exact z0e func144 _ z0p ⟨_,rfl,⟨_,rfl⟩,rfl⟩|exact z0d (ih1 ⟨k1+1,_⟩ ⟨by omega,by omega,by omega⟩ (by omega)) rfl rfl|omega|(exfalso;simp_all;done)
  case neg =>
   repeat' first|(apply z05;refine z0n ?_)|(apply z06;first|refine z0m ?_|apply z09)|(apply z07;first|apply z08|apply z00|apply z04|apply z01|refine z0h (fun _=>?_) (fun _=>?_)| refine z0o ?_)
   all_goals try first|exact z0e func144 _ z0p ⟨_,rfl,⟨_,rfl⟩,rfl⟩|omega|(exfalso;simp_all;done)
theorem zlj(c:z10)(b e:Int)(hc:Small c):NF prog 141 [c.d,I .i64 b,I .i64 e] IsB:=by
 refine z5u fun H=>?_
 refine z0g func141 (by kernel_rfl) rfl (by simp) ?_
 dsimp only[f141]
 have:=hc.ntexts
 repeat' first|(apply z05;first|refine z0n ?_| (apply z0a;refine z02 z16 rfl rfl ?_)|(apply z0c;refine z02 z0i rfl rfl ?_)|(apply z0s;refine z02 (z0w rfl) rfl rfl ?_)|(apply z18;refine z0b z1m ?_))|(apply z06;first|refine z0m ?_|apply z09)|(apply z07;first|apply z08|apply z00|apply z01)
 all_goals try first|exact z0e func141 _ z0p ⟨_,rfl,⟨_,rfl⟩,rfl⟩|omega|(exfalso;simp_all;done)
 all_goals
  refine z0r ?_
  refine z0d (z1o (fun k1:Nat=>⟨32,[(1,PV.lift 1 (I IntKind.i64 b)),(2,PV.lift 1 (I IntKind.i64 e)),(10,PV.d (D.slice (List.map Text.cs c.texts))),(11,I IntKind.i64 ↑c.texts.length),(12,I .i64 (k1:Nat))],[],H⟩) (fun k1:Nat=>k1≤c.texts.length) (fun k1:Nat=>c.texts.length-k1) ?_ 0 (zAf _)) rfl rfl
  intro k1 hk1 ih1
  by_cases hlt1:k1<c.texts.length
  case pos =>
   obtain⟨x1,hx1⟩:∃x,c.texts[k1]? =some x:=⟨_,zA0 (by first|omega|(simp;omega))⟩
   repeat' first|(apply z05;first|refine z0n ?_| (apply z0a;first|refine z02 z16 rfl rfl ?_| refine z02 z1w rfl rfl ?_)|(apply z0c;refine z02 z0i rfl rfl ?_)|(apply z0k;refine z02 (z1a rfl (idx hx1)) rfl rfl ?_)|(apply z0t;refine z02 (z0z z1h) rfl rfl ?_)|(apply z0f;refine z25 ?_)|(apply z0l;refine z0b z2e ?_))|(apply z06;first|refine z0m ?_|apply z09|refine z1g ?_| refine z1p (fun _=>?_) fun _=>?_)|(apply z07;first|apply z08|apply z00|refine z15 ?_| apply z04|apply z01|apply z03|refine z0h (fun _=>?_) (fun _=>?_)| refine z0o ?_)
   all_goals try first|exact z0e func141 _ z0p ⟨_,rfl,⟨_,rfl⟩,rfl⟩|exact z0d (ih1 (k1+1) (by omega) (by omega)) rfl rfl|omega|(exfalso;simp_all;done)
  case neg =>
   repeat' first|(apply z05;refine z0n ?_)|(apply z06;first|refine z0m ?_|apply z09)|(apply z07;first|apply z08|apply z00|apply z04|apply z01|refine z0h (fun _=>?_) (fun _=>?_)| refine z0o ?_)
   all_goals try first|exact z0e func141 _ z0p ⟨_,rfl,⟨_,rfl⟩,rfl⟩|omega|(exfalso;simp_all;done)
theorem y41(hh:List Int)(rr:List Str)(h1:hh.length≤1000000)(h2:rr.length=hh.length):NF prog 142 [.d (ints hh),.d (strs rr)] IsB:=by
 refine z5u fun H=>?_
 refine z0g func142 (by kernel_rfl) rfl (by simp) ?_
 dsimp only[f142]
 repeat' first|(apply z05;first|refine z0n ?_| (apply z0s;refine z02 (z0w rfl) rfl rfl ?_))|(apply z06;first|refine z0m ?_|apply z09)|(apply z07;first|apply z08|apply z00|apply z01)
 all_goals try first|exact z0e func142 _ z0p ⟨_,rfl,⟨_,rfl⟩,rfl⟩|omega|(exfalso;simp_all;done)
 all_goals
  refine z0r ?_
  refine z0d (z1o (fun k1:Nat=>⟨24,[(0,PV.lift 1 (PV.d (ints hh))),(1,PV.lift 1 (PV.d (strs rr))),(7,I IntKind.i64 ↑hh.length),(8,I .i64 (k1:Nat))],[],H⟩) (fun k1:Nat=>k1≤hh.length) (fun k1:Nat=>hh.length-k1) ?_ 0 (zAf _)) rfl rfl
  intro k1 hk1 ih1
  by_cases hlt1:k1<hh.length
  case pos =>
   obtain⟨x1,hx1⟩:∃x,hh[k1]? =some x:=⟨_,zA0 (by omega)⟩
   obtain⟨y1,hy1⟩:∃x,rr[k1]? =some x:=⟨_,zA0 (by omega)⟩
   repeat' first|(apply z05;first|refine z0n ?_| (apply z0a;refine z02 z2f rfl rfl ?_)|(apply z0k;first|refine z02 (z1a rfl (idx hx1)) rfl rfl ?_| refine z02 (z1a rfl (idx hy1)) rfl rfl ?_)|(apply z0t;refine z02 (z0z z1h) rfl rfl ?_))|(apply z06;first|refine z0m ?_|apply z09|refine z1g ?_| refine z39 rfl rfl (fun _=>?_) fun _=>?_)|(apply z07;first|apply z08|apply z00|refine z1j ?_| apply z04|apply z01|apply z03|refine z0h (fun _=>?_) (fun _=>?_)| refine z38 rfl (fun _=>?_) (fun _=>?_)|refine z0o ?_)
   all_goals try first|exact z0e func142 _ z0p ⟨_,rfl,⟨_,rfl⟩,rfl⟩|exact z0d (ih1 (k1+1) (by omega) (by omega)) rfl rfl|omega|(exfalso;simp_all;done)
  case neg =>
   repeat' first|(apply z05;refine z0n ?_)|(apply z06;first|refine z0m ?_|apply z09)|(apply z07;first|apply z08|apply z00|apply z04|apply z01|refine z0h (fun _=>?_) (fun _=>?_)| refine z0o ?_)
   all_goals try first|exact z0e func142 _ z0p ⟨_,rfl,⟨_,rfl⟩,rfl⟩|omega|(exfalso;simp_all;done)
theorem zt1(s:Str)(hs:s.size≤1000000):NF prog 160 [S s] IsB:=by
 refine z5u fun H=>?_
 refine z0g func160 (by kernel_rfl) rfl (by simp) ?_
 dsimp only[f160]
 repeat' first|(apply z05;first|refine z0n ?_| (apply z0s;refine z02 (z0w rfl) rfl rfl ?_)|(apply z0j;refine z8h (zv3 _ hs) rfl (by decide) (fun p hp=>?_);obtain⟨us,hus,rfl⟩:=hp))|(apply z06;first|refine z0m ?_|apply z09)|(apply z07;first|apply z08|apply z00|apply z01)
 all_goals try first|exact z0e func160 _ z0p ⟨_,rfl,⟨_,rfl⟩,rfl⟩|omega|(exfalso;simp_all;done)
 all_goals
  refine z0r ?_
  refine z0d (z1o (fun k1:Nat=>⟨16,[(6,PV.d (D.slice (List.map z8a.cs us))),(7,I IntKind.i64 ↑us.length),(8,I .i64 (k1:Nat))],[],H⟩) (fun k1:Nat=>k1≤us.length) (fun k1:Nat=>us.length-k1) ?_ 0 (zAf _)) rfl rfl
  intro k1 hk1 ih1
  by_cases hlt1:k1<us.length
  case pos =>
   obtain⟨x1,hx1⟩:∃x,us[k1]? =some x:=⟨_,zA0 (by first|omega|(simp;omega))⟩
   repeat' first|(apply z05;first|refine z0n ?_| (apply z0a;first|refine z02 z16 rfl rfl ?_| refine z02 z1w rfl rfl ?_)|(apply z0c;refine z02 z0i rfl rfl ?_)|(apply z0k;refine z02 (z1a rfl (idx hx1)) rfl rfl ?_)|(apply z0t;refine z02 (z0z z1h) rfl rfl ?_)|(apply z0f;refine z25 ?_)|(apply z0l;refine z0b z2e ?_))|(apply z06;first|refine z0m ?_|apply z09)|(apply z07;first|apply z08|apply z00|apply z04|apply z01|apply z03|refine z0h (fun _=>?_) (fun _=>?_)| refine z2q rfl (fun _=>?_) (fun _=>?_)|refine z0o ?_)
   all_goals try first|exact z0e func160 _ z0p ⟨_,rfl,⟨_,rfl⟩,rfl⟩|exact z0d (ih1 (k1+1) (by omega) (by omega)) rfl rfl|omega|(exfalso;simp_all;done)
  case neg =>
   repeat' first|(apply z05;refine z0n ?_)|(apply z06;first|refine z0m ?_|apply z09)|(apply z07;first|apply z08|apply z00|apply z04|apply z01|refine z0h (fun _=>?_) (fun _=>?_)| refine z0o ?_)
   all_goals try first|exact z0e func160 _ z0p ⟨_,rfl,⟨_,rfl⟩,rfl⟩|omega|(exfalso;simp_all;done)
theorem z3y{α:Type}{l:List α}{k:Nat}{x:α}(h:l[k]? =some x):l.drop k=x::l.drop (k+1):=by
 obtain⟨h1,h2⟩:=zA1.1 h
 rw[List.drop_eq_getElem_cons h1,h2]
def z56:List Text→Nat→Int→Int
 | [],_,_=> -1
 | t::r,k,i=>if t.b≤i∧i<t.e then k else z56 r (k+1) i
def z4f:List zf0→List zf0→Int
 | x::xs,y::ys=>if x.name≠y.name then zie x.name y.name else if x.value≠y.value then zie x.value y.value else z4f xs ys
 | a,b=>if(a.length:Int)≠b.length then zfi (decide ((a.length:Int)<b.length))else 0
theorem z5s{a b:List zf0}{k:Nat}(h:¬(k<a.length∧k<b.length))(hk:k≤a.length:=by omega)(hk':k≤b.length:=by omega):z4f (a.drop k) (b.drop k)=if(a.length:Int)≠b.length then zfi (decide ((a.length:Int)<b.length))else 0:=by
 have key:∀x y:List zf0,(x=[]∨y=[])→z4f x y=if(x.length:Int)≠y.length then zfi (decide ((x.length:Int)<y.length))else 0:=by
  intro x y hxy
  cases x <;> cases y <;> simp_all [z4f]
 rw[key _ _ (by
  rcases Nat.lt_or_ge k a.length with h1|h1
  ·exact .inr (List.drop_eq_nil_of_le (by omega))
  ·exact .inl (List.drop_eq_nil_of_le (by omega)))]
 simp only[List.length_drop]
 have e1:((a.length-k:Nat):Int)=a.length-k:=by omega
 have e2:((b.length-k:Nat):Int)=b.length-k:=by omega
 rw[e1,e2]
 have e3:((a.length:Int)-k≠b.length-k)↔((a.length:Int)≠b.length):=by omega
 have e4:((a.length:Int)-k<b.length-k)↔((a.length:Int)<b.length):=by omega
 simp only[e3,e4]
def zf4(a b:Region):Int:=if a.b≠b.b then zfi (decide (a.b<b.b))else if a.e≠b.e then zfi (decide (b.e<a.e))else if a.type≠b.type then zie a.type b.type else z4f a.keys b.keys
theorem z8n(s:Str)(hs:s.size≤1000000):NF prog 166 [S s] IsI:=by
 refine z5u fun H=>?_
 refine z0g func166 (by kernel_rfl) rfl (by simp) ?_
 dsimp only[f166]
 have hl:s.data.toList.length=s.size:=by simp
 repeat' first|(apply z05;first|refine z0n ?_| (apply z0s;first|refine z02 (z0w rfl) rfl rfl ?_| refine z02 (z63 rfl) rfl rfl ?_)|(apply z0j;refine z8h (zt1 _ hs) rfl (by decide) (fun p hp=>?_);obtain⟨_,rfl⟩:=hp)|(apply z9u;refine z02 (zza rfl rfl rfl) rfl rfl ?_))|(apply z06;first|refine z0m ?_|apply z09)|(apply z07;first|apply z08|apply z00|apply z04|apply z01|refine z0h (fun _=>?_) (fun _=>?_)| refine z2q rfl (fun _=>?_) fun _=>?_)
 all_goals try first|exact z0e func166 _ z0p ⟨_,rfl,⟨_,rfl⟩,rfl⟩|omega|(exfalso;simp_all;done)
 all_goals
  refine z0r ?_
  refine z0d (z1o (fun k1:Nat=>⟨25,[(12,PV.d (zop s.data.toList)),(13,I IntKind.i64 ↑s.data.toList.length),(14,I .i64 (k1:Nat))],[],H⟩) (fun k1:Nat=>k1≤s.data.toList.length) (fun k1:Nat=>s.data.toList.length-k1) ?_ 0 (zAf _)) rfl rfl
  intro k1 hk1 ih1
  by_cases hlt1:k1<s.data.toList.length
  case pos =>
   obtain⟨x1,hx1⟩:∃x,s.data.toList[k1]? =some x:=⟨_,zA0 (by omega)⟩
   repeat' first|(apply z05;first|refine z0n ?_| (apply z0a;refine z02 z2f rfl rfl ?_)|(apply z0k;refine z02 (z1a rfl (idx hx1)) rfl rfl ?_)|(apply z0t;refine z02 (z0z z1h) rfl rfl ?_))|(apply z06;first|refine z0m ?_|apply z09|refine z1g ?_| refine z1p (fun _=>?_) fun _=>?_)|(apply z07;first|apply z08|apply z00|refine z1j ?_| apply z04|apply z01|apply z03|refine z0h (fun _=>?_) (fun _=>?_)| refine z0o ?_)
   all_goals try first|exact z0e func166 _ z0p ⟨_,rfl,⟨_,rfl⟩,rfl⟩|exact z0d (ih1 (k1+1) (by omega) (by omega)) rfl rfl|omega|(exfalso;simp_all;done)
  case neg =>
   repeat' first|(apply z05;refine z0n ?_)|(apply z06;first|refine z0m ?_|apply z09)|(apply z07;first|apply z08|apply z00|apply z04|apply z01|refine z0h (fun _=>?_) (fun _=>?_)| refine z0o ?_)
   all_goals try first|exact z0e func166 _ z0p ⟨_,rfl,⟨_,rfl⟩,rfl⟩|omega|(exfalso;simp_all;done)
theorem zup(s:Str)(hs:s.size≤1000000)(hv:NF prog 166 [S s] IsI):NF prog 165 [S s] y6t:=by
 refine z5u fun H=>?_
 refine z0g func165 (by kernel_rfl) rfl (by simp) ?_
 dsimp only[f165]
 repeat' first|(apply z05;first|refine z5f (d:=6) rfl rfl rfl (by decide) ?_|refine z0n ?_| (apply z9p;refine z02 (z7i rfl (by omega) (zo6 (by omega) (by omega)).choose_spec) rfl rfl ?_)|(apply z0t;refine z02 (z2l z1h) rfl rfl ?_)|(apply z0s;refine z02 (z63 rfl) rfl rfl ?_)|(apply z0j;refine z8h hv rfl (by decide) (fun p hp=>?_);obtain⟨_,rfl⟩:=hp))|(apply z06;first|refine z0m ?_|apply z09|refine z1g ?_| refine z1p (fun _=>?_) (fun _=>?_)| refine z39 rfl rfl (fun _=>?_) fun _=>?_)|(apply z07;first|apply z08|apply z00|refine z1j ?_| apply z04|apply z01|refine z38 rfl (fun _=>?_) fun _=>?_)
 all_goals try first|exact z0e func165 _ z2s ⟨_,rfl,⟨_,_,rfl⟩,rfl⟩|omega|(exfalso;simp_all;done)
 all_goals
  refine z0r ?_
  refine z0d (z1o (fun q:Nat × Int × List Str=>⟨69,[(0,PV.lift 1 (S s)),(5,I IntKind.i64 ↑(ByteArray.size s)),(6,PV.ref (0,6)),(7,I .i64 q.2.1),(8,I .i64 (q.1:Nat))],[(6,.row 9 1 (q.2.2.map fun x=>[z6o x]))],H⟩) (fun q:Nat × Int × List Str=>1≤q.1∧q.1≤s.size∧1≤q.2.1∧q.2.1≤q.1∧q.2.2.length<q.1) (fun q:Nat × Int × List Str=>s.size-q.1) ?_ ⟨1,_,[]⟩ (by simp;omega)) rfl rfl
  intro⟨k1,m1_7,q1⟩ hk1 ih1
  simp only at hk1 ih1⊢
  by_cases hlt1:k1<s.size
  case pos =>
   repeat' first|(apply z05;first|refine z0n ?_| (apply z9p;refine z02 (z7i rfl (by omega) (zo6 (by omega) (by omega)).choose_spec) rfl rfl ?_)|(apply z0t;refine z02 (z0z z1h) rfl rfl ?_)|(apply zc0;refine z02 (zga rfl (by omega) (by omega) (by omega)) rfl rfl ?_)|(apply z0s;refine z99 _ rfl ?_)|(apply z3c;refine z3b rfl ?_))|(apply z06;first|refine z0m ?_|apply z09)|(apply z07;first|apply z08|apply z00|apply z04|apply z01|apply z03|refine z0h (fun _=>?_) (fun _=>?_)| refine z38 rfl (fun _=>?_) (fun _=>?_)|refine z0o ?_)
   all_goals try first|exact z0e func165 _ z2s ⟨_,rfl,⟨_,_,rfl⟩,rfl⟩|(first|exact z0d (ih1 ⟨k1+1,m1_7,q1⟩ ⟨(by first|omega|(simp;omega)|(simp;done)),(by first|omega|(simp;omega)|(simp;done)),(by first|omega|(simp;omega)|(simp;done)),(by first|omega|(simp;omega)|(simp;done)),(by first|omega|(simp;omega)|(simp;done))⟩ (by first|omega|(simp;omega)|(simp;done))) rfl rfl|(refine z4n 49 6 rfl rfl ?_;exact z0d (ih1 ⟨k1+1,(k1:Int)+1,q1++[s.extract m1_7.toNat ((k1:Nat):Int).toNat]⟩ ⟨(by first|omega|(simp;omega)|(simp;done)),(by first|omega|(simp;omega)|(simp;done)),(by first|omega|(simp;omega)|(simp;done)),(by first|omega|(simp;omega)|(simp;done)),(by first|omega|(simp;omega)|(simp;done))⟩ (by first|omega|(simp;omega)|(simp;done))) rfl rfl))|omega|(exfalso;simp_all;done)
  case neg =>
   repeat' first|(apply z05;first|refine z0n ?_| (apply z9p;refine z02 (z7i rfl (by omega) (zo6 (by omega) (by omega)).choose_spec) rfl rfl ?_)|(apply z0t;refine z02 (z0z z1h) rfl rfl ?_)|(apply zc0;refine z02 (zga rfl (by omega) (by omega) (by omega)) rfl rfl ?_)|(apply z0s;refine z99 _ rfl ?_)|(apply z3c;refine z3b rfl ?_))|(apply z06;first|refine z0m ?_|apply z09)|(apply z07;first|apply z08|apply z00|apply z04|apply z01|apply z03|refine z0h (fun _=>?_) (fun _=>?_)| refine z38 rfl (fun _=>?_) (fun _=>?_)|refine z0o ?_)
   all_goals try first|exact z0e func165 _ z2s ⟨_,rfl,⟨_,_,rfl⟩,rfl⟩|omega|(exfalso;simp_all;done)
   all_goals
    refine z1f 6 rfl ?_
    refine z0r ?_
    refine z0d (z1o (fun k2:Nat=>⟨69,[(6,PV.frz (0,6) (D.slice (List.map (fun x=>[z6o x]) q1)) (PV.ref (0,6))),(9,I .i64 (k2:Nat))],[(6,Blk.gone)],H⟩) (fun k2:Nat=>1≤k2∧k2≤q1.length+1) (fun k2:Nat=>q1.length+1-k2) ?_ 1 (by omega)) rfl rfl
    intro k2 hk2 ih2
    by_cases hlt2:k2<q1.length
    case pos =>
     obtain⟨x2,hx2⟩:∃x,q1[k2]? =some x:=⟨_,zA0 (by omega)⟩
     obtain⟨y2,hy2⟩:∃x,q1[((k2:Int)-1).toNat]? =some x:=⟨_,zA0 (by omega)⟩
     repeat' first|(apply z05;first|refine z0n ?_| (apply z0t;refine z02 (z0z z1h) rfl rfl ?_)|(apply z0s;refine z02 (z0w rfl) rfl rfl ?_))|(apply z06;first|refine z0m ?_|apply z09)|(apply z07;first|apply z08|apply z00|apply z04|apply z01|apply z2o|apply z03|refine z0h (fun _=>?_) (fun _=>?_)| refine z2q rfl (fun _=>?_) (fun _=>?_)|refine z0o ?_)|(apply z2m;first|(apply z1e;refine z2c mix ?_)|refine z2w ?_| (apply z0v;refine z0x z2f rfl rfl ?_)|(apply z1i;first|refine z0x (z1a rfl (idx hx2)) rfl rfl ?_| refine z0x (z1a rfl (z6h hy2)) rfl rfl ?_)|(apply z3p;first|refine z0x (z2l z1h) rfl rfl ?_| refine z0x zww rfl rfl ?_))
     all_goals try first|exact z0e func165 _ z2s ⟨_,rfl,⟨_,_,rfl⟩,rfl⟩|exact z0d (ih2 (k2+1) (by omega) (by omega)) rfl rfl|omega|(exfalso;simp_all;done)
    case neg =>
     repeat' first|(apply z05;first|refine z0n ?_| (apply z0s;refine z02 (z0w rfl) rfl rfl ?_))|(apply z06;first|refine z0m ?_|apply z09)|(apply z07;first|apply z08|apply z00|apply z04|apply z01|apply z2o|refine z0h (fun _=>?_) (fun _=>?_)| refine z0o ?_)|(apply z2m;first|refine z2w ?_| (apply z3p;refine z0x (z2l z1h) rfl rfl ?_))
     all_goals try first|exact z0e func165 _ z2s ⟨_,rfl,⟨_,_,rfl⟩,rfl⟩|omega|(exfalso;simp_all;done)
theorem y0p(a:Attr)(s:Str)(hs:s.size≤1000000):NF prog 139 [.d (.agg a.cs),S s] IsI:=by
 refine z5u fun H=>?_
 refine z0g func139 (by kernel_rfl) rfl (by simp) ?_
 dsimp only[f139]
 repeat' first|(apply z05;first|refine z0n ?_| (apply z0a;refine z02 z16 rfl rfl ?_)|(apply z0c;refine z02 z0i rfl rfl ?_)|(apply z0j;first|(refine z8h (z8n s hs) rfl (by decide) (fun p hp=>?_);obtain⟨_,rfl⟩:=hp)|(refine z8h (zup s hs (z8n s hs)) rfl (by decide) (fun p hp=>?_);obtain⟨_,_,rfl⟩:=hp))|(apply z18;refine z0b z1m ?_))|(apply z06;first|refine z0m ?_|apply z09)|(apply z07;first|apply z08|apply z00|apply z04|refine z2q rfl (fun _=>?_) fun _=>?_)
 all_goals try first|exact z0e func139 _ z0p ⟨_,rfl,⟨_,rfl⟩,rfl⟩|omega|(exfalso;simp_all;done)
theorem zk9(l:List zf0)(hl:SmP l):NF prog 140 [.d (.slice (l.map zf0.cs))] IsI:=by
 refine z5u fun H=>?_
 refine z0g func140 (by kernel_rfl) rfl (by simp) ?_
 dsimp only[f140]
 have hn:=hl.1
 repeat' first|(apply z05;first|refine z0n ?_| (apply z0s;refine z02 (z0w rfl) rfl rfl ?_))|(apply z06;first|refine z0m ?_|apply z09)|(apply z07;first|apply z08|apply z00|apply z04|apply z01|refine z0h (fun _=>?_) fun _=>?_)
 all_goals try first|exact z0e func140 _ z0p ⟨_,rfl,⟨_,rfl⟩,rfl⟩|omega|(exfalso;simp_all;done)
 all_goals
  refine z0r ?_
  refine z0d (z1o (fun k1:Nat=>⟨42,[(0,PV.lift 1 (PV.d (D.slice (List.map zf0.cs l)))),(9,PV.lift 1 (PV.d (D.slice (List.map zf0.cs l)))),(10,I IntKind.i64 ↑l.length),(11,I .i64 (k1:Nat))],[],H⟩) (fun k1:Nat=>k1≤l.length) (fun k1:Nat=>l.length-k1) ?_ 0 (zAf _)) rfl rfl
  intro k1 hk1 ih1
  by_cases hlt1:k1<l.length
  case pos =>
   obtain⟨x1,hx1⟩:∃x,l[k1]? =some x:=⟨_,zA0 (by omega)⟩
   have hp1:=hl.2 x1 (zA2 hx1)
   by_cases h0:0<k1
   obtain⟨y1,hy1⟩:∃x,l[((k1:Int)-1).toNat]? =some x:=⟨_,zA0 (by omega)⟩
   repeat' first|(apply z05;first|refine z0n ?_| (apply z0a;first|refine z02 z16 rfl rfl ?_| refine z02 z1w rfl rfl ?_)|(apply z0c;refine z02 z0i rfl rfl ?_)|(apply z0k;refine z02 (z1a rfl (idx hx1)) rfl rfl ?_)|(apply z0t;refine z02 (z0z z1h) rfl rfl ?_)|(apply z0j;first|(refine z8h (z5t _ (by omega)) rfl (by decide) (fun p hp=>?_);obtain⟨_,rfl⟩:=hp)|(refine z8h (z8n _ (by omega)) rfl (by decide) (fun p hp=>?_);obtain⟨_,rfl⟩:=hp))|(apply z0f;refine z25 ?_)|(apply z0l;refine z0b z2e ?_))|(apply z06;first|refine z0m ?_|apply z09)|(apply z07;first|apply z08|apply z00|refine z15 ?_| apply z04|apply z01|apply z2o|apply z03|refine z0h (fun _=>?_) (fun _=>?_)| refine z38 rfl (fun _=>?_) (fun _=>?_)|refine z2q rfl (fun _=>?_) (fun _=>?_)|refine z0o ?_)|(apply z2m;first|(apply z1e;refine z2c mix ?_)|refine z6d rfl rfl (by decide) ?_|refine z2w ?_| (apply z0v;first|refine z0x z16 rfl rfl ?_| refine z0x z2f rfl rfl ?_)|(apply z0u;first|refine z0x z0i rfl rfl ?_| refine z0x (z5o rfl rfl) rfl rfl ?_)|(apply z1i;refine z0x (z1a rfl (z6h hy1)) rfl rfl ?_)|(apply z3p;first|refine z0x (z2l z1h) rfl rfl ?_| refine z0x zww rfl rfl ?_)|(refine z4h rfl rfl (fun hg=>?_) (fun hg=>?_) <;> simp only[hg] <;> (try simp only[zA3,zA5,zA6,zA8]at hg)))
   all_goals try first|exact z0e func140 _ z0p ⟨_,rfl,⟨_,rfl⟩,rfl⟩|exact z0d (ih1 (k1+1) (by omega) (by omega)) rfl rfl|omega|(exfalso;simp_all;done)
  case neg =>
   repeat' first|(apply z05;refine z0n ?_)|(apply z06;first|refine z0m ?_|apply z09)|(apply z07;first|apply z08|apply z00|apply z04|apply z01|refine z0h (fun _=>?_) (fun _=>?_)| refine z0o ?_)
   all_goals try first|exact z0e func140 _ z0p ⟨_,rfl,⟨_,rfl⟩,rfl⟩|omega|(exfalso;simp_all;done)
theorem zo7(c:z10)(s:Str)(hc:Small c):NF prog 55 [c.d,S s] IsI:=by
 refine z5u fun H=>?_
 refine z0g func55 (by kernel_rfl) rfl (by simp) ?_
 dsimp only[f55]
 have:=hc.ntexts
 repeat' first|(apply z05;first|refine z0n ?_| (apply z0a;refine z02 z16 rfl rfl ?_)|(apply z0c;refine z02 z0i rfl rfl ?_)|(apply z0s;refine z02 (z0w rfl) rfl rfl ?_)|(apply z18;refine z0b z1m ?_))|(apply z06;first|refine z0m ?_|apply z09)|(apply z07;first|apply z08|apply z00|apply z01)
 all_goals try first|exact z0e func55 _ z0p ⟨_,rfl,⟨_,rfl⟩,rfl⟩|omega|(exfalso;simp_all;done)
 all_goals
  refine z0r ?_
  refine z0d (z1o (fun k1:Nat=>⟨21,[(1,PV.lift 1 (S s)),(8,PV.d (D.slice (List.map Text.cs c.texts))),(9,I IntKind.i64 ↑c.texts.length),(10,I .i64 (k1:Nat))],[],H⟩) (fun k1:Nat=>k1≤c.texts.length) (fun k1:Nat=>c.texts.length-k1) ?_ 0 (zAf _)) rfl rfl
  intro k1 hk1 ih1
  by_cases hlt1:k1<c.texts.length
  case pos =>
   obtain⟨x1,hx1⟩:∃x,c.texts[k1]? =some x:=⟨_,zA0 (by first|omega|(simp;omega))⟩
   repeat' first|(apply z05;first|refine z0n ?_| (apply z0a;first|refine z02 z16 rfl rfl ?_| refine z02 z1w rfl rfl ?_)|(apply z0c;refine z02 z0i rfl rfl ?_)|(apply z0k;refine z02 (z1a rfl (idx hx1)) rfl rfl ?_)|(apply z0t;refine z02 (z0z z1h) rfl rfl ?_)|(apply z0f;refine z25 ?_)|(apply z0l;refine z0b z2e ?_))|(apply z06;first|refine z0m ?_|apply z09)|(apply z07;first|apply z08|apply z00|apply z04|apply z01|apply z03|refine z0h (fun _=>?_) (fun _=>?_)| refine z0o ?_)
   all_goals try first|exact z0e func55 _ z0p ⟨_,rfl,⟨_,rfl⟩,rfl⟩|exact z0d (ih1 (k1+1) (by omega) (by omega)) rfl rfl|omega|(exfalso;simp_all;done)
  case neg =>
   repeat' first|(apply z05;refine z0n ?_)|(apply z06;first|refine z0m ?_|apply z09)|(apply z07;first|apply z08|apply z00|apply z04|apply z01|refine z0h (fun _=>?_) (fun _=>?_)| refine z0o ?_)
   all_goals try first|exact z0e func55 _ z0p ⟨_,rfl,⟨_,rfl⟩,rfl⟩|omega|(exfalso;simp_all;done)
end Go.Proofs.YtonhfccmeammbaaGreatDoor
