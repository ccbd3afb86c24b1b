/- A part of the proof: TDefs to T23. -/
import Derived.Test.YtonhfccmeammbaaGreatDoorUt
import Derived.Test.YtonhfccmeammbaaGreatDoorUc
set_option linter.all false
namespace Go.Proofs.YtonhfccmeammbaaGreatDoor
open Go.Ab
def ints (l:List Int):D:=.slice (l.map fun x=>[z3c x])
def strs (l:List Str):D:=.slice (l.map fun x=>[z5p x])
structure Attr where
 name:Str
 set:Bool
structure zcn where
 name:Str
 value:Str
structure Text where
 name:Str
 b:Int
 e:Int
 meta_:List zcn
structure Region where
 type:Str
 b:Int
 e:Int
 keys:List zcn
structure Node where
 label:Str
 b:Int
 e:Int
 parent:Int
structure z0v where
 attrs:List Attr
 tokens:List (List Str)
 texts:List Text
 regions:List Region
 nodes:List Node
 heads:List Int
 rels:List Str
def Attr.cs (a:Attr):List D:=[z5p a.name,zhk a.set]
def zcn.cs (a:zcn):List D:=[z5p a.name,z5p a.value]
def Text.cs (a:Text):List D:=[z5p a.name,z3c a.b,z3c a.e,.slice (a.meta_.map zcn.cs)]
def Region.cs (a:Region):List D:=[z5p a.type,z3c a.b,z3c a.e,.slice (a.keys.map zcn.cs)]
def Node.cs (a:Node):List D:=[z5p a.label,z3c a.b,z3c a.e,z3c a.parent]
def z0v.cs (c:z0v):List D:=[.slice (c.attrs.map Attr.cs),.slice (c.tokens.map fun t=>[strs t]),.slice (c.texts.map Text.cs),.slice (c.regions.map Region.cs),.slice (c.nodes.map Node.cs),ints c.heads,strs c.rels]
abbrev z0v.d (c:z0v):PV:=.d (.agg c.cs)
def token (c:z0v) (i:Int):Bool:=decide (0≤i)&&decide (i<c.tokens.length)
def IsB (p:PV):Prop:=∃ b:Bool,p=B b
def IsI (p:PV):Prop:=∃ i:Int,p=I .i64 i
def zu4 (p:PV):Prop:=∃ i e:Int,p=.tup [I .i64 i,I .i64 e]
attribute [local irreducible] Run Ops Op1 z1x Val Tr z0m z1r
def head (c:z0v) (i:Int):Int:=match c.heads[i.toNat]? with
 | some h=>if token c h then h else -1
 | none=> -1
def z73 (c:z0v):Nat→Int→List Int
 | 0,_=>[]
 | n+1,i=>if 0≤i then i::z73 c n (head c i) else []
def up (c:z0v) (i:Int):List Int:=if token c i then z73 c c.tokens.length (head c i) else []
theorem zdo (c:z0v) (i:Int):(up c i).length≤c.tokens.length:=by
 have:∀ n j,(z73 c n j).length≤n:=fun n=>by
  induction n with
  | zero=>intro j;simp[z73]
  | succ n ih=>intro j;simp only[z73];split <;> simp[ih]
 simp only[up];split <;> simp[this]
end Go.Proofs.YtonhfccmeammbaaGreatDoor
namespace Go.Proofs.YtonhfccmeammbaaGreatDoor
open Go.Ab
structure Wf (c:z0v):Prop where
 tok:c.tokens.length≤1000
 tok0:0<c.tokens.length
 rel:c.rels.length=c.heads.length
 hd:c.heads=[]∨c.heads.length=c.tokens.length
 acyc:∃ rank:Nat→Nat,∀ (i:Nat) (h:Int),c.heads[i]? =some h→h=-1∨(0≤h∧h.toNat<c.tokens.length∧rank h.toNat<rank i∧rank i<c.tokens.length)
theorem z3d (c:z0v) (i:Int):token c i=true↔0≤i∧i<c.tokens.length:=by simp[token]
theorem zd0 {c:z0v} (h:Wf c) {i:Int} (hi:0≤i):head c i=-1∨token c (head c i)=true:=by
 unfold head
 split
 · split
   · rename_i h1;exact .inr h1
   · exact .inl rfl
 · exact .inl rfl
theorem ztn {c:z0v} (h:Wf c):∃ rank:Nat→Nat,∀ i:Int,0≤i→head c i=-1∨(token c (head c i)=true∧rank (head c i).toNat<rank i.toNat∧rank i.toNat<c.tokens.length):=by
 obtain⟨rank,hr⟩:=h.acyc
 refine⟨rank,fun i hi=>?_⟩
 rcases zd0 h hi with h1|h1
 · exact .inl h1
 · have hne:head c i≠-1:=fun e=>by rw[e] at h1;simp[token] at h1
   cases hq:c.heads[i.toNat]? with
   | none=>simp[head,hq] at hne
   | some x =>
    have hx:head c i=x:=by
     simp only[head,hq] at hne ⊢
     split
     · rfl
     · rename_i h2;simp[h2] at hne
    rw[hx] at h1 ⊢
    rcases hr _ _ hq with e|⟨a,b,d,e⟩
    · exact .inl e
    · exact .inr ⟨h1,d,e⟩
theorem zha {c:z0v} {rank:Nat→Nat} (hr:∀ i:Int,0≤i→head c i=-1∨(token c (head c i)=true∧rank (head c i).toNat<rank i.toNat∧rank i.toNat<c.tokens.length)) :
 ∀ (n m:Nat) (i:Int),(i=-1∨(0≤i∧rank i.toNat<n∧rank i.toNat<m))→z73 c n i=z73 c m i:=by
 intro n
 induction n with
 | zero =>
  intro m i hi
  rcases hi with rfl|⟨_,h,_⟩
  · cases m <;> simp[z73]
  · omega
 | succ n ih =>
  intro m i hi
  rcases hi with rfl|⟨h0,h1,h2⟩
  · cases m <;> simp[z73]
  · cases m with
    | zero=>omega
    | succ m =>
     simp only[z73,h0,if_true]
     congr 1
     refine ih m _ ?_
     rcases hr i h0 with h|⟨h,h',_⟩
     · exact .inl h
     · rw[z3d] at h
       exact .inr ⟨h.1,by omega,by omega⟩
theorem zca {c:z0v} (h:Wf c) {i:Int} (hi:token c i=true):up c i=if head c i=-1 then [] else head c i::up c (head c i):=by
 obtain⟨rank,hr⟩:=ztn h
 have h0:=((z3d c i).1 hi).1
 simp only[up,hi,if_true]
 rcases hr i h0 with h1|⟨h1,h2,h3⟩
 · rw[h1]
   obtain⟨n,hn⟩:∃ n,c.tokens.length=n+1:=⟨c.tokens.length-1,by have:=h.tok0;omega⟩
   rw[hn];simp[z73]
 · have hh:=(z3d c _).1 h1
   have hne:head c i≠-1:=by omega
   rw[zAx hne,h1,zAy rfl]
   obtain⟨n,hn⟩:∃ n,c.tokens.length=n+1:=⟨c.tokens.length-1,by have:=h.tok0;omega⟩
   rw[hn,z73,zAy hh.1,← hn]
   congr 1
   refine zha hr _ _ _ ?_
   rcases hr _ hh.1 with h4|⟨h4,h5,_⟩
   · exact .inl h4
   · exact .inr ⟨((z3d c _).1 h4).1,by omega,by omega⟩
theorem zr4 {c:z0v} {i:Int} (hi:token c i=false):up c i=[]:=by simp[up,hi]
theorem zd3 {c:z0v} (h:Wf c) {i:Int} (hi:0≤i) (hn:head c i≠-1):token c (head c i)=true:=by
 rcases zd0 h hi with e|e
 · exact absurd e hn
 · exact e
attribute [local irreducible] Run Ops Op1 z1x Val Tr z0m z1r
def zro (c:z0v) (i:Int):Str:=match c.rels[i.toNat]? with
 | some r=>r
 | none=>⟨#[]⟩
def znp (x n:Int):Int:=if n<1 then 0 else x % n
theorem zdu {x n:Int} (h:1≤n):0≤znp x n∧znp x n<n:=by
 simp only[znp,zAx (show ¬ n<1 by omega)]
 exact⟨Int.emod_nonneg _ (by omega),Int.emod_lt_of_pos _ (by omega)⟩
theorem zp5 {x n:Int} (hn:0<n):x.tmod n=if x % n=0 then 0 else if x<0 then x % n-n else x % n:=by
 have h1:=Int.tmod_eq_emod (a:=x) (b:=n)
 rw[h1]
 have h0:=Int.emod_nonneg x (show n≠0 by omega)
 by_cases hd:n ∣ x
 · have:x % n=0:=Int.emod_eq_zero_of_dvd hd
   simp[this,hd]
 · have:x % n≠0:=fun e=>hd (Int.dvd_of_emod_eq_zero e)
   by_cases hx:x<0
   · have:¬ 0≤x:=by omega
     simp[*];omega
   · have:0≤x:=by omega
     simp[*]
theorem zvz (x n:Int) (hn:-9223372036854775808≤n∧n≤9223372036854775807):z0m Tryz.prog 17 [I .i64 x,I .i64 n] (I .i64 (znp x n)):=by
 refine z10 fun H=>?_
 refine z0g Tryz.func17 (by kernel_rfl) rfl (by simp) ?_
 dsimp only[Tryz.f17]
 by_cases hn1:n<1
 · repeat' (first|(apply z04;(refine z0l ?_))|(apply z05;(first|refine z0k ?_|apply z09))|(apply z06;(first|apply z07|apply z00|apply z08|refine z0h (fun _=>?_) (fun _=>?_))))
   · refine z0c Tryz.func17 _ z1j ⟨?_,rfl⟩
     simp[znp,hn1]
   · omega
 · have h0:=Int.emod_nonneg x (show n≠0 by omega)
   have h1:=Int.emod_lt_of_pos x (show 0<n by omega)
   have ht:=zp5 (x:=x) (n:=n) (by omega)
   have hb:-n<x.tmod n∧x.tmod n<n:=by rw[ht];split <;> (try split) <;> omega
   repeat' (first|(apply z04;(first|refine z0l ?_| (apply z0z;(first|refine z02 (zuw (by omega)) rfl rfl ?_| refine z02 (z14 z1p) rfl rfl ?_))))|(apply z05;(first|refine z0k ?_|apply z09))|(apply z06;(first|apply z07|apply z00|apply z08|refine z0h (fun _=>?_) (fun _=>?_))))
   · omega
   · rename_i hneg
     refine z0c Tryz.func17 _ z1j ⟨?_,rfl⟩
     have:x.tmod n+n=x % n:=by rw[ht] at hneg ⊢;split at hneg <;> (try split at hneg) <;> simp_all <;> omega
     simp[znp,hn1,this]
   · rename_i hneg
     refine z0c Tryz.func17 _ z1j ⟨?_,rfl⟩
     have:x.tmod n=x % n:=by rw[ht] at hneg ⊢;split at hneg <;> (try split at hneg) <;> simp_all <;> omega
     simp[znp,hn1,this]
attribute [local irreducible] NF Rel
def zdt (b:Bool):Int:=if b then -1 else 1
theorem zle (b:Bool):z0m Tryz.prog 111 [B b] (I .i64 (zdt b)):=by
 refine z10 fun H=>?_
 refine z0g Tryz.func111 (by kernel_rfl) rfl (by simp) ?_
 dsimp only[Tryz.f111]
 cases b <;> repeat' (first|(apply z04;(refine z0l ?_))|(apply z05;(first|refine z0k ?_|apply z09))|(apply z06;(first|apply z07|apply z00|refine z1b rfl ?_|refine z1f ?_| apply z08)))
 all_goals exact z0c Tryz.func111 _ z1j ⟨rfl,rfl⟩
def zfs (a b:Str):Int:=if Op.bytesLess a.toList b.toList then -1 else if Op.bytesLess a.toList b.toList||decide (a=b) then 0 else 1
theorem zfl (a b:Str):z0m Tryz.prog 112 [S a,S b] (I .i64 (zfs a b)):=by
 refine z10 fun H=>?_
 refine z0g Tryz.func112 (by kernel_rfl) rfl (by simp) ?_
 dsimp only[Tryz.f112]
 repeat' (first|(apply z04;(first|refine z0l ?_| (apply z0z;(first|refine z02 zul rfl rfl ?_| refine z02 zwn rfl rfl ?_))))|(apply z05;(first|refine z0k ?_|apply z09))|(apply z06;(first|apply z07|apply z00|apply z08|apply z01|apply z03|refine z2i rfl (fun _=>?_) (fun _=>?_))))
 all_goals refine z0c Tryz.func112 _ z1j ⟨?_,rfl⟩
 all_goals simp_all [zfs]
theorem zmy (b:UInt8):NF Tryz.prog 163 [I .u8 b.toNat] IsB:=by
 refine z4y fun H=>?_
 refine z0g Tryz.func163 (by kernel_rfl) rfl (by simp) ?_
 dsimp only[Tryz.f163]
 repeat' (first|(apply z04;(refine z0l ?_))|(apply z05;(first|refine z0k ?_|apply z09|refine z1m ?_| refine z9j rfl rfl (by decide) ?_|refine z1t (fun _=>?_) (fun _=>?_)))|(apply z06;(first|apply z07|apply z00)))
 all_goals exact z0c Tryz.func163 _ z1j ⟨_,rfl,⟨_,rfl⟩,rfl⟩
theorem zqu (b:UInt8):NF Tryz.prog 164 [I .u8 b.toNat] IsB:=by
 refine z4y fun H=>?_
 refine z0g Tryz.func164 (by kernel_rfl) rfl (by simp) ?_
 dsimp only[Tryz.f164]
 repeat' (first|(apply z04;(first|refine z0l ?_| (apply z0j;((refine z7a (zmy _) rfl (by decide) (fun p hp=>?_);obtain⟨_,rfl⟩:=hp)))))|(apply z05;(first|refine z0k ?_|apply z09|refine z1m ?_| refine z9j rfl rfl (by decide) ?_|refine z1t (fun _=>?_) (fun _=>?_)| refine zao rfl rfl (fun _=>?_) (fun _=>?_)))|(apply z06;(first|apply z07|apply z00)))
 all_goals exact z0c Tryz.func164 _ z1j ⟨_,rfl,⟨_,rfl⟩,rfl⟩
theorem zka {s:Str} {i:Int} (h0:0≤i) (h:i<s.size):∃ b,s[i.toNat]? =some b:=⟨_,getElem?_pos s i.toNat (by omega)⟩
set_option maxHeartbeats 2000000
structure z6v where
 r:Int
 at_:Int
 size:Int
 ok:Bool
def z6v.cs (u:z6v):List D:=[.lit (.int .i32 u.r),z3c u.at_,z3c u.size,zhk u.ok]
def zrt (m:Nat) (p:PV):Prop:=∃ us:List z6v,us.length≤m∧p=.d (.slice (us.map z6v.cs))
theorem zdr {α:Type} (l:List α):l=[]∨∃ q x,l=q++[x]:=zfv l
theorem zbb {α:Type} (q:List α) (x:α) {i:Int} (h:i=((q++[x]).length:Int)-1):(q++[x])[i.toNat]? =some x:=by
 have:i.toNat=q.length:=by rw[h];simp
 rw[this];simp
theorem zjf {α:Type} (q:List α) (x y:α) {i:Int} (h:i=((q++[x]).length:Int)-1):(q++[x]).set i.toNat y=q++[y]:=by
 have:i.toNat=q.length:=by rw[h];simp
 rw[this];simp
theorem zb1 (s:ByteArray) (pos:Nat) (h:pos<s.size):1≤(Utf8.decode s pos).2:=by
 by_cases ha:(s[pos]'h).toNat<128
 · rw[decode_ascii s pos h ha]
   exact zAj _
 · exact(decode_high s pos h (by omega)).2
theorem zon (s:Str) (hs:s.size≤1000000):NF Tryz.prog 104 [S s] (zrt s.size):=by
 refine z4y fun H=>?_
 refine z0g Tryz.func104 (by kernel_rfl) rfl (by simp) ?_
 dsimp only[Tryz.f104]
 repeat' (first|(apply z04;(first|refine z5z rfl rfl rfl (by decide) ?_|refine z0l ?_| refine zc6 rfl rfl rfl (by decide) ?_))|(apply z05;(first|refine z0k ?_|apply z09))|(apply z06;(first|apply z07|apply z00|apply z01)))
 refine z0t ?_
 refine z0e (z1v (fun q:List z6v × Nat=>⟨81,[(0,S s),(3,.ref (0,3)),(8,.ptr (0,8) 0)],[(3,.row 137 4 (q.1.map z6v.cs)),(8,.siter s q.2)],H⟩)
  (fun q=>q.1.length≤q.2∧q.1.length≤s.size∧∀ u∈q.1,0≤u.at_∧u.at_≤s.size) (fun q=>s.size-q.2) ?_ ([],0) ⟨by simp,by simp,by simp⟩) rfl rfl
 intro ⟨us,at_⟩ ⟨h1,h2,h3⟩ ih
 simp only at h1 h2 h3 ih ⊢
 by_cases hlt:at_<s.size
 · have hw:=zb1 s at_ hlt
   rcases zdr us with rfl|⟨vs,u,rfl⟩
   · repeat' (first|(apply z04;(first|refine z0l ?_| (apply z0x;(first|refine z9o rfl rfl (z6v.mk (Utf8.decode s at_).1 at_ 0 false) rfl rfl rfl rfl rfl rfl rfl (by decide) (by simp <;> omega) ?_|refine z02 (z3m rfl) rfl rfl ?_))|(apply z1i;(refine z2x ?_))|(apply z3t;(refine z3s rfl ?_))|refine z3z hlt rfl rfl (by decide) ?_))|(apply z05;(first|refine z0k ?_|apply z09))|(apply z06;(first|apply z07|apply z00|refine z1b rfl ?_|refine z1f ?_| apply z08|apply z01|apply z03)))
     refine z4x 36 3 rfl rfl ?_
     refine z0e (ih ([z6v.mk (Utf8.decode s at_).1 at_ 0 false],at_+(Utf8.decode s at_).2) ⟨by simp;omega,by simp;omega,by simp;omega⟩ (by simp;omega)) rfl rfl
   · have hu:=h3 u (by simp)
     have hl:(vs++[u]).length=vs.length+1:=by simp
     repeat' (first|(apply z04;(first|refine z0l ?_| (apply z0a;(refine z02 (z2e (zbb _ _ rfl) rfl rfl rfl) rfl rfl ?_))|(apply z0d;(refine z02 (z63 rfl rfl) rfl rfl ?_))|(apply z0n;(refine z02 (z25 rfl (by omega) (by simp;omega) rfl) rfl rfl ?_))|(apply z0z;(refine z02 (z2q z1p) rfl rfl ?_))|(apply z0x;(first|refine z9o rfl rfl (z6v.mk (Utf8.decode s at_).1 at_ 0 false) rfl rfl rfl rfl rfl rfl rfl (by decide) (by simp <;> omega) ?_|refine z02 (z3m rfl) rfl rfl ?_))|(apply z0f;(refine z27 {u with size:=at_-u.at_} rfl rfl rfl rfl (zbb _ _ rfl) rfl rfl (by rfl) (zjf _ _ _ rfl) ?_))|(apply z1i;(refine z2x ?_))|(apply z3t;(refine z3s rfl ?_))|refine z3z hlt rfl rfl (by decide) ?_))|(apply z05;(first|refine z0k ?_|apply z09))|(apply z06;(first|apply z07|apply z00|refine z1b rfl ?_|apply z08|apply z01|apply z03|refine z0h (fun _=>?_) (fun _=>?_))))
     · refine z4x 36 3 rfl rfl ?_
       refine z0e (ih (vs++[{u with size:=at_-u.at_}]++[z6v.mk (Utf8.decode s at_).1 at_ 0 false],at_+(Utf8.decode s at_).2) ⟨by simp;omega,by simp;omega,fun w hw=>?_⟩ (by simp;omega)) rfl rfl
       simp only[zAs,zAp,or_assoc] at hw
       rcases hw with hw|rfl|rfl
       · exact h3 w (by simp[hw])
       · exact hu
       · simp;omega
     · rename_i h;simp at h
 · rcases zdr us with rfl|⟨vs,u,rfl⟩
   · repeat' (first|(apply z04;(first|refine z0l ?_| (apply z0x;(refine z02 (z3m rfl) rfl rfl ?_))|refine z3w hlt rfl rfl (by decide) ?_))|(apply z05;(first|refine z0k ?_|apply z09))|(apply z06;(first|apply z07|apply z00|refine z1f ?_| apply z08|apply z01|refine z0o ?_)))
     refine z0t ?_
     refine z3i ?_
     repeat' (first|(apply z04;(refine z0l ?_))|(apply z05;(first|refine z0k ?_|apply z09))|(apply z06;(first|apply z07|apply z00|refine z1f ?_| refine z0o ?_)))
     refine z19 3 rfl ?_
     exact z0c Tryz.func104 _ z1j ⟨_,rfl,⟨[],by simp,rfl⟩,rfl⟩
   · have hu:=h3 u (by simp)
     have hl:(vs++[u]).length=vs.length+1:=by simp
     repeat' (first|(apply z04;(first|refine z0l ?_| (apply z0a;(refine z02 (z2e (zbb _ _ rfl) rfl rfl rfl) rfl rfl ?_))|(apply z0d;(refine z02 (z63 rfl rfl) rfl rfl ?_))|(apply z0n;(refine z02 (z25 rfl (by omega) (by simp;omega) rfl) rfl rfl ?_))|(apply z0z;(refine z02 (z2q z1p) rfl rfl ?_))|(apply z0x;(first|refine z02 (z5q rfl) rfl rfl ?_| refine z02 (z3m rfl) rfl rfl ?_))|(apply z0f;(refine z27 {u with size:=s.size-u.at_} rfl rfl rfl rfl (zbb _ _ rfl) rfl rfl (by rfl) (zjf _ _ _ rfl) ?_))|refine z3w hlt rfl rfl (by decide) ?_))|(apply z05;(first|refine z0k ?_|apply z09))|(apply z06;(first|apply z07|apply z00|refine z1f ?_| apply z08|apply z01|refine z0h (fun _=>?_) (fun _=>?_)| refine z0o ?_)))
     · rename_i h0
       refine z0t ?_
       refine z0e (z1v (fun q:List z6v × Nat=>⟨81,[(3,.ref (0,3)),(57,I .i64 (vs++[{u with size:=s.size-u.at_}]:List z6v).length),(58,I .i64 q.2)],[(3,.row 137 4 (q.1.map z6v.cs))],H⟩)
        (fun q=>q.1.length=(vs++[{u with size:=s.size-u.at_}]:List z6v).length∧q.2≤q.1.length) (fun q=>q.1.length-q.2) ?_ (vs++[{u with size:=s.size-u.at_}],0) ⟨rfl,zAf _⟩) rfl rfl
       intro ⟨xs,k⟩ ⟨e1,e2⟩ ih2
       simp only at e1 e2 ih2 ⊢
       have hL:xs.length≤s.size:=by rw[e1];simpa using h2
       by_cases hlk:k<xs.length
       · obtain⟨x,hx⟩:∃ x,xs[k]? =some x:=⟨_,zA0 hlk⟩
         have hx2:xs[((k:Nat):Int).toNat]? =some x:=by simpa using hx
         repeat' (first|(apply z04;(first|refine z0l ?_| (apply z0a;(refine z02 (z2e hx2 rfl rfl rfl) rfl rfl ?_))|(apply z0d;(refine z02 (z63 rfl rfl) rfl rfl ?_))|(apply z0n;(refine z02 (z25 rfl (by omega) (by simp;omega) rfl) rfl rfl ?_))|(apply z0z;(refine z02 (z14 z1p) rfl rfl ?_))|(apply z0f;(first|refine z27 (z6v.mk x.r x.at_ x.size true) (by rfl) (by rfl) (by rfl) (by rfl) hx2 (by rfl) (by rfl) (by rfl) (by rfl) ?_|refine z27 (z6v.mk x.r x.at_ x.size (decide (x.size=3))) (by rfl) (by rfl) (by rfl) (by rfl) hx2 (by rfl) (by rfl) (by rfl) (by rfl) ?_))))|(apply z05;(first|refine z0k ?_|apply z09|refine z1m ?_| refine z3v rfl rfl (fun _=>?_) (fun _=>?_)))|(apply z06;(first|apply z07|apply z00|apply z08|apply z01|apply z03|refine z0h (fun _=>?_) (fun _=>?_)| refine z0o ?_)))
         all_goals first
          | exact z0e (ih2 (xs.set ((k:Nat):Int).toNat (z6v.mk x.r x.at_ x.size true),k+1) ⟨by simpa using e1,by simp;omega⟩ (by simp;omega)) rfl rfl
          | exact z0e (ih2 (xs.set ((k:Nat):Int).toNat (z6v.mk x.r x.at_ x.size (decide (x.size=3))),k+1) ⟨by simpa using e1,by simp;omega⟩ (by simp;omega)) rfl rfl
          | (exfalso;omega)
       · repeat' (first|(apply z04;(first|refine z0l ?_| (apply z0d;(refine z02 (z63 rfl rfl) rfl rfl ?_))|(apply z0n;(refine z02 (z25 rfl (by omega) (by simp;omega) rfl) rfl rfl ?_))))|(apply z05;(first|refine z0k ?_|apply z09))|(apply z06;(first|apply z07|apply z00|apply z08|apply z01|refine z0h (fun _=>?_) (fun _=>?_)| refine z0o ?_)))
         · exfalso;omega
         · refine z19 3 rfl ?_
           exact z0c Tryz.func104 _ z1j ⟨_,rfl,⟨xs,by have:=h2;simp at this e1;omega,rfl⟩,rfl⟩
     · rename_i h0;simp at h0
def SmP (l:List zcn):Prop:=l.length≤1000000∧∀ p∈l,p.name.size≤1000000∧p.value.size≤1000000
structure Small (c:z0v):Prop where
 toks:c.tokens.length≤1000000
 ntexts:c.texts.length≤1000000
 nattrs:c.attrs.length≤1000000
 nregs:c.regions.length≤1000000
 nnodes:c.nodes.length≤1000000
 nheads:c.heads.length≤1000000
 nrels:c.rels.length≤1000000
 attr:∀ a∈c.attrs,a.name.size≤1000000
 tok:∀ t∈c.tokens,t.length≤1000000∧∀ v∈t,v.size≤1000000
 text:∀ t∈c.texts,t.name.size≤1000000∧SmP t.meta_∧0≤t.b∧t.b≤1000000∧0≤t.e∧t.e≤1000000
 reg:∀ x∈c.regions,x.type.size≤1000000∧SmP x.keys∧0≤x.b∧x.b≤1000000∧0≤x.e∧x.e≤1000000
 node:∀ x∈c.nodes,x.label.size≤1000000∧0≤x.b∧x.b≤1000000∧0≤x.e∧x.e≤1000000∧-1≤x.parent∧x.parent≤1000000
 rel:∀ x∈c.rels,x.size≤1000000
def zzb (p:PV):Prop:=∃ (x:D) (e:Int),p=.tup [.d x,I .i64 e]
theorem z4z (s:Str) (hs:s.size≤1000000):NF Tryz.prog 138 [S s] IsB:=by
 refine z4y fun H=>?_
 refine z0g Tryz.func138 (by kernel_rfl) rfl (by simp) ?_
 dsimp only[Tryz.f138]
 repeat' (first|(apply z04;(first|refine z0l ?_| (apply z84;(refine z02 (z69 rfl (by omega) (zka (by omega) (by omega)).choose_spec) rfl rfl ?_))|(apply z0x;(refine z02 (z5q rfl) rfl rfl ?_))|(apply z0j;((refine z7a (zmy _) rfl (by decide) (fun p hp=>?_);obtain⟨_,rfl⟩:=hp)))))|(apply z05;(first|refine z0k ?_|apply z09|refine z1m ?_| refine z1t (fun _=>?_) (fun _=>?_)))|(apply z06;(first|apply z07|apply z00|refine z1b rfl ?_|apply z08|apply z01|refine z2i rfl (fun _=>?_) (fun _=>?_))))
 all_goals try (first|exact z0c Tryz.func138 _ z1j ⟨_,rfl,⟨_,rfl⟩,rfl⟩|(exfalso;omega)|(exfalso;simp_all;done))
 all_goals
  refine z0t ?_
  refine z0e (z1v (fun k1:Nat=>⟨29,[(0,PV.lift 1 (S s)),(3,I .i64 (k1:Nat))],[],H⟩) (fun k1:Nat=>1≤k1∧k1≤s.size+1) (fun k1:Nat=>s.size+1-k1) ?_ 1 (by omega)) rfl rfl
  intro k1 hk1 ih1
  by_cases hlt1:k1<s.size
  case pos =>
   repeat' (first|(apply z04;(first|refine z0l ?_| (apply z84;(refine z02 (z69 rfl (by omega) (zka (by omega) (by omega)).choose_spec) rfl rfl ?_))|(apply z0z;(refine z02 (z14 z1p) rfl rfl ?_))|(apply z0x;(refine z02 (z5q rfl) rfl rfl ?_))|(apply z0j;((refine z7a (zqu _) rfl (by decide) (fun p hp=>?_);obtain⟨_,rfl⟩:=hp)))))|(apply z05;(first|refine z0k ?_|apply z09))|(apply z06;(first|apply z07|apply z00|apply z08|apply z01|apply z03|refine z0h (fun _=>?_) (fun _=>?_)| refine z2i rfl (fun _=>?_) (fun _=>?_)|refine z0o ?_)))
   all_goals try (first|exact z0c Tryz.func138 _ z1j ⟨_,rfl,⟨_,rfl⟩,rfl⟩|exact z0e (ih1 (k1+1) (by omega) (by omega)) rfl rfl|(exfalso;omega)|(exfalso;simp_all;done))
  case neg =>
   repeat' (first|(apply z04;(first|refine z0l ?_| (apply z84;(refine z02 (z69 rfl (by omega) (zka (by omega) (by omega)).choose_spec) rfl rfl ?_))|(apply z0z;(refine z02 (z14 z1p) rfl rfl ?_))|(apply z0x;(refine z02 (z5q rfl) rfl rfl ?_))|(apply z0j;((refine z7a (zqu _) rfl (by decide) (fun p hp=>?_);obtain⟨_,rfl⟩:=hp)))))|(apply z05;(first|refine z0k ?_|apply z09))|(apply z06;(first|apply z07|apply z00|apply z08|apply z01|apply z03|refine z0h (fun _=>?_) (fun _=>?_)| refine z2i rfl (fun _=>?_) (fun _=>?_)|refine z0o ?_)))
   all_goals try (first|exact z0c Tryz.func138 _ z1j ⟨_,rfl,⟨_,rfl⟩,rfl⟩|(exfalso;omega)|(exfalso;simp_all;done))
theorem zo6 (hh:List Int) (i:Int) (h1:hh.length≤1000000) (h0:0≤i) (hi:i<hh.length):NF Tryz.prog 144 [.d (ints hh),I .i64 i] IsB:=by
 refine z4y fun H=>?_
 refine z0g Tryz.func144 (by kernel_rfl) rfl (by simp) ?_
 dsimp only[Tryz.f144]
 repeat' (first|(apply z04;(first|refine z0l ?_| (apply z0x;(refine z02 (z0y rfl) rfl rfl ?_))))|(apply z05;(first|refine z0k ?_|apply z09))|(apply z06;(first|apply z07|apply z00|apply z01)))
 all_goals try (first|exact z0c Tryz.func144 _ z1j ⟨_,rfl,⟨_,rfl⟩,rfl⟩|(exfalso;omega)|(exfalso;simp_all;done))
 all_goals
  refine z0t ?_
  refine z0e (z1v (fun q:Nat × Int=>⟨27,[(0,PV.lift 1 (PV.d (ints hh))),(1,PV.lift 1 (I IntKind.i64 i)),(5,I .i64 q.2),(8,I IntKind.i64 ↑hh.length),(9,I .i64 (q.1:Nat))],[],H⟩) (fun q:Nat × Int=>q.1≤hh.length∧0≤q.2∧q.2<hh.length) (fun q:Nat × Int=>hh.length-q.1) ?_ ⟨0,_⟩ ⟨zAf _,h0,hi⟩) rfl rfl
  intro ⟨k1,m1_5⟩ hk1 ih1
  simp only at hk1 ih1 ⊢
  by_cases hlt1:k1<hh.length
  case pos =>
   obtain⟨x1,hx1⟩:∃ x,hh[m1_5.toNat]? =some x:=⟨_,zA0 (by omega)⟩
   repeat' (first|(apply z04;(first|refine z0l ?_| (apply z0a;(refine z02 z2p rfl rfl ?_))|(apply z0n;(refine z02 (z1o rfl (z6u hx1)) rfl rfl ?_))|(apply z0z;(refine z02 (z14 z1p) rfl rfl ?_))|(apply z0x;(refine z02 (z0y rfl) rfl rfl ?_))))|(apply z05;(first|refine z0k ?_|apply z09|refine z1m ?_| refine z1t (fun _=>?_) (fun _=>?_)))|(apply z06;(first|apply z07|apply z00|refine z1b rfl ?_|apply z08|apply z01|apply z03|refine z0h (fun _=>?_) (fun _=>?_)| refine z0o ?_)))
   all_goals try (first|exact z0c Tryz.func144 _ z1j ⟨_,rfl,⟨_,rfl⟩,rfl⟩|exact z0e (ih1 ⟨k1+1,_⟩ ⟨by omega,by omega,by omega⟩ (by omega)) rfl rfl|(exfalso;omega)|(exfalso;simp_all;done))
  case neg =>
   repeat' (first|(apply z04;(refine z0l ?_))|(apply z05;(first|refine z0k ?_|apply z09))|(apply z06;(first|apply z07|apply z00|apply z08|apply z01|refine z0h (fun _=>?_) (fun _=>?_)| refine z0o ?_)))
   all_goals try (first|exact z0c Tryz.func144 _ z1j ⟨_,rfl,⟨_,rfl⟩,rfl⟩|(exfalso;omega)|(exfalso;simp_all;done))
theorem zj7 (c:z0v) (b e:Int) (hc:Small c):NF Tryz.prog 141 [c.d,I .i64 b,I .i64 e] IsB:=by
 refine z4y fun H=>?_
 refine z0g Tryz.func141 (by kernel_rfl) rfl (by simp) ?_
 dsimp only[Tryz.f141]
 have:=hc.ntexts
 repeat' (first|(apply z04;(first|refine z0l ?_| (apply z0a;(refine z02 z18 rfl rfl ?_))|(apply z0d;(refine z02 z1a rfl rfl ?_))|(apply z0x;(refine z02 (z0y rfl) rfl rfl ?_))|(apply z1c;(refine z0b z1q ?_))))|(apply z05;(first|refine z0k ?_|apply z09))|(apply z06;(first|apply z07|apply z00|apply z01)))
 all_goals try (first|exact z0c Tryz.func141 _ z1j ⟨_,rfl,⟨_,rfl⟩,rfl⟩|(exfalso;omega)|(exfalso;simp_all;done))
 all_goals
  refine z0t ?_
  refine z0e (z1v (fun k1:Nat=>⟨32,[(1,PV.lift 1 (I IntKind.i64 b)),(2,PV.lift 1 (I IntKind.i64 e)),(10,PV.d (D.slice (List.map Text.cs c.texts))),(11,I IntKind.i64 ↑c.texts.length),(12,I .i64 (k1:Nat))],[],H⟩) (fun k1:Nat=>k1≤c.texts.length) (fun k1:Nat=>c.texts.length-k1) ?_ 0 (zAf _)) rfl rfl
  intro k1 hk1 ih1
  by_cases hlt1:k1<c.texts.length
  case pos =>
   obtain⟨x1,hx1⟩:∃ x,c.texts[k1]? =some x:=⟨_,zA0 (by first|omega|(simp;omega))⟩
   repeat' (first|(apply z04;(first|refine z0l ?_| (apply z0a;(first|refine z02 z18 rfl rfl ?_| refine z02 z2j rfl rfl ?_))|(apply z0d;(refine z02 z1a rfl rfl ?_))|(apply z0n;(refine z02 (z1o rfl (idx hx1)) rfl rfl ?_))|(apply z0z;(refine z02 (z14 z1p) rfl rfl ?_))|(apply z0f;(refine z2d ?_))|(apply z0i;(refine z0b z1e ?_))))|(apply z05;(first|refine z0k ?_|apply z09|refine z1m ?_| refine z1t (fun _=>?_) (fun _=>?_)))|(apply z06;(first|apply z07|apply z00|refine z1f ?_| apply z08|apply z01|apply z03|refine z0h (fun _=>?_) (fun _=>?_)| refine z0o ?_)))
   all_goals try (first|exact z0c Tryz.func141 _ z1j ⟨_,rfl,⟨_,rfl⟩,rfl⟩|exact z0e (ih1 (k1+1) (by omega) (by omega)) rfl rfl|(exfalso;omega)|(exfalso;simp_all;done))
  case neg =>
   repeat' (first|(apply z04;(refine z0l ?_))|(apply z05;(first|refine z0k ?_|apply z09))|(apply z06;(first|apply z07|apply z00|apply z08|apply z01|refine z0h (fun _=>?_) (fun _=>?_)| refine z0o ?_)))
   all_goals try (first|exact z0c Tryz.func141 _ z1j ⟨_,rfl,⟨_,rfl⟩,rfl⟩|(exfalso;omega)|(exfalso;simp_all;done))
theorem zwg (hh:List Int) (rr:List Str) (h1:hh.length≤1000000) (h2:rr.length=hh.length):NF Tryz.prog 142 [.d (ints hh),.d (strs rr)] IsB:=by
 refine z4y fun H=>?_
 refine z0g Tryz.func142 (by kernel_rfl) rfl (by simp) ?_
 dsimp only[Tryz.f142]
 repeat' (first|(apply z04;(first|refine z0l ?_| (apply z0x;(refine z02 (z0y rfl) rfl rfl ?_))))|(apply z05;(first|refine z0k ?_|apply z09))|(apply z06;(first|apply z07|apply z00|apply z01)))
 all_goals try (first|exact z0c Tryz.func142 _ z1j ⟨_,rfl,⟨_,rfl⟩,rfl⟩|(exfalso;omega)|(exfalso;simp_all;done))
 all_goals
  refine z0t ?_
  refine z0e (z1v (fun k1:Nat=>⟨24,[(0,PV.lift 1 (PV.d (ints hh))),(1,PV.lift 1 (PV.d (strs rr))),(7,I IntKind.i64 ↑hh.length),(8,I .i64 (k1:Nat))],[],H⟩) (fun k1:Nat=>k1≤hh.length) (fun k1:Nat=>hh.length-k1) ?_ 0 (zAf _)) rfl rfl
  intro k1 hk1 ih1
  by_cases hlt1:k1<hh.length
  case pos =>
   obtain⟨x1,hx1⟩:∃ x,hh[k1]? =some x:=⟨_,zA0 (by omega)⟩
   obtain⟨y1,hy1⟩:∃ x,rr[k1]? =some x:=⟨_,zA0 (by omega)⟩
   repeat' (first|(apply z04;(first|refine z0l ?_| (apply z0a;(refine z02 z2p rfl rfl ?_))|(apply z0n;(first|refine z02 (z1o rfl (idx hx1)) rfl rfl ?_| refine z02 (z1o rfl (idx hy1)) rfl rfl ?_))|(apply z0z;(refine z02 (z14 z1p) rfl rfl ?_))))|(apply z05;(first|refine z0k ?_|apply z09|refine z1m ?_| refine z3v rfl rfl (fun _=>?_) (fun _=>?_)))|(apply z06;(first|apply z07|apply z00|refine z1b rfl ?_|apply z08|apply z01|apply z03|refine z0h (fun _=>?_) (fun _=>?_)| refine z3o rfl (fun _=>?_) (fun _=>?_)|refine z0o ?_)))
   all_goals try (first|exact z0c Tryz.func142 _ z1j ⟨_,rfl,⟨_,rfl⟩,rfl⟩|exact z0e (ih1 (k1+1) (by omega) (by omega)) rfl rfl|(exfalso;omega)|(exfalso;simp_all;done))
  case neg =>
   repeat' (first|(apply z04;(refine z0l ?_))|(apply z05;(first|refine z0k ?_|apply z09))|(apply z06;(first|apply z07|apply z00|apply z08|apply z01|refine z0h (fun _=>?_) (fun _=>?_)| refine z0o ?_)))
   all_goals try (first|exact z0c Tryz.func142 _ z1j ⟨_,rfl,⟨_,rfl⟩,rfl⟩|(exfalso;omega)|(exfalso;simp_all;done))
theorem zpt (s:Str) (hs:s.size≤1000000):NF Tryz.prog 160 [S s] IsB:=by
 refine z4y fun H=>?_
 refine z0g Tryz.func160 (by kernel_rfl) rfl (by simp) ?_
 dsimp only[Tryz.f160]
 repeat' (first|(apply z04;(first|refine z0l ?_| (apply z0x;(refine z02 (z0y rfl) rfl rfl ?_))|(apply z0j;((refine z7a (zon _ hs) rfl (by decide) (fun p hp=>?_);obtain⟨us,hus,rfl⟩:=hp)))))|(apply z05;(first|refine z0k ?_|apply z09))|(apply z06;(first|apply z07|apply z00|apply z01)))
 all_goals try (first|exact z0c Tryz.func160 _ z1j ⟨_,rfl,⟨_,rfl⟩,rfl⟩|(exfalso;omega)|(exfalso;simp_all;done))
 all_goals
  refine z0t ?_
  refine z0e (z1v (fun k1:Nat=>⟨16,[(6,PV.d (D.slice (List.map z6v.cs us))),(7,I IntKind.i64 ↑us.length),(8,I .i64 (k1:Nat))],[],H⟩) (fun k1:Nat=>k1≤us.length) (fun k1:Nat=>us.length-k1) ?_ 0 (zAf _)) rfl rfl
  intro k1 hk1 ih1
  by_cases hlt1:k1<us.length
  case pos =>
   obtain⟨x1,hx1⟩:∃ x,us[k1]? =some x:=⟨_,zA0 (by first|omega|(simp;omega))⟩
   repeat' (first|(apply z04;(first|refine z0l ?_| (apply z0a;(first|refine z02 z18 rfl rfl ?_| refine z02 z2j rfl rfl ?_))|(apply z0d;(refine z02 z1a rfl rfl ?_))|(apply z0n;(refine z02 (z1o rfl (idx hx1)) rfl rfl ?_))|(apply z0z;(refine z02 (z14 z1p) rfl rfl ?_))|(apply z0f;(refine z2d ?_))|(apply z0i;(refine z0b z1e ?_))))|(apply z05;(first|refine z0k ?_|apply z09))|(apply z06;(first|apply z07|apply z00|apply z08|apply z01|apply z03|refine z0h (fun _=>?_) (fun _=>?_)| refine z2i rfl (fun _=>?_) (fun _=>?_)|refine z0o ?_)))
   all_goals try (first|exact z0c Tryz.func160 _ z1j ⟨_,rfl,⟨_,rfl⟩,rfl⟩|exact z0e (ih1 (k1+1) (by omega) (by omega)) rfl rfl|(exfalso;omega)|(exfalso;simp_all;done))
  case neg =>
   repeat' (first|(apply z04;(refine z0l ?_))|(apply z05;(first|refine z0k ?_|apply z09))|(apply z06;(first|apply z07|apply z00|apply z08|apply z01|refine z0h (fun _=>?_) (fun _=>?_)| refine z0o ?_)))
   all_goals try (first|exact z0c Tryz.func160 _ z1j ⟨_,rfl,⟨_,rfl⟩,rfl⟩|(exfalso;omega)|(exfalso;simp_all;done))
theorem z3f {α:Type} {l:List α} {k:Nat} {x:α} (h:l[k]? =some x):l.drop k=x::l.drop (k+1):=by
 obtain⟨h1,h2⟩:=zA1.1 h
 rw[List.drop_eq_getElem_cons h1,h2]
def z4j:List Text→Nat→Int→Int
 | [],_,_=> -1
 | t::r,k,i=>if t.b≤i∧i<t.e then k else z4j r (k+1) i
def z3p:List zcn→List zcn→Int
 | x::xs,y::ys=>if x.name≠y.name then zfs x.name y.name else if x.value≠y.value then zfs x.value y.value else z3p xs ys
 | a,b=>if (a.length:Int)≠b.length then zdt (decide ((a.length:Int)<b.length)) else 0
theorem z4w {a b:List zcn} {k:Nat} (h:¬ (k<a.length∧k<b.length)) (hk:k≤a.length:=by omega) (hk':k≤b.length:=by omega):z3p (a.drop k) (b.drop k)=if (a.length:Int)≠b.length then zdt (decide ((a.length:Int)<b.length)) else 0:=by
 have key:∀ x y:List zcn,(x=[]∨y=[])→z3p x y=if (x.length:Int)≠y.length then zdt (decide ((x.length:Int)<y.length)) else 0:=by
  intro x y hxy
  cases x <;> cases y <;> simp_all [z3p]
 rw[key _ _ (by
  rcases Nat.lt_or_ge k a.length with h1|h1
  · exact .inr (List.drop_eq_nil_of_le (by omega))
  · exact .inl (List.drop_eq_nil_of_le (by omega)))]
 simp only[List.length_drop]
 have e1:((a.length-k:Nat):Int)=a.length-k:=by omega
 have e2:((b.length-k:Nat):Int)=b.length-k:=by omega
 rw[e1,e2]
 have e3:((a.length:Int)-k≠b.length-k)↔((a.length:Int)≠b.length):=by omega
 have e4:((a.length:Int)-k<b.length-k)↔((a.length:Int)<b.length):=by omega
 simp only[e3,e4]
def zcu (a b:Region):Int:=if a.b≠b.b then zdt (decide (a.b<b.b)) else if a.e≠b.e then zdt (decide (b.e<a.e)) else if a.type≠b.type then zfs a.type b.type else z3p a.keys b.keys
theorem z7s (s:Str) (hs:s.size≤1000000):NF Tryz.prog 166 [S s] IsI:=by
 refine z4y fun H=>?_
 refine z0g Tryz.func166 (by kernel_rfl) rfl (by simp) ?_
 dsimp only[Tryz.f166]
 have hl:s.data.toList.length=s.size:=by simp
 repeat' (first|(apply z04;(first|refine z0l ?_| (apply z0x;(first|refine z02 (z0y rfl) rfl rfl ?_| refine z02 (z5q rfl) rfl rfl ?_))|(apply z0j;((refine z7a (zpt _ hs) rfl (by decide) (fun p hp=>?_);obtain⟨_,rfl⟩:=hp)))|(apply zc9;(refine z02 (ztc rfl rfl rfl) rfl rfl ?_))))|(apply z05;(first|refine z0k ?_|apply z09))|(apply z06;(first|apply z07|apply z00|apply z08|apply z01|refine z0h (fun _=>?_) (fun _=>?_)| refine z2i rfl (fun _=>?_) (fun _=>?_))))
 all_goals try (first|exact z0c Tryz.func166 _ z1j ⟨_,rfl,⟨_,rfl⟩,rfl⟩|(exfalso;omega)|(exfalso;simp_all;done))
 all_goals
  refine z0t ?_
  refine z0e (z1v (fun k1:Nat=>⟨25,[(12,PV.d (zlj s.data.toList)),(13,I IntKind.i64 ↑s.data.toList.length),(14,I .i64 (k1:Nat))],[],H⟩) (fun k1:Nat=>k1≤s.data.toList.length) (fun k1:Nat=>s.data.toList.length-k1) ?_ 0 (zAf _)) rfl rfl
  intro k1 hk1 ih1
  by_cases hlt1:k1<s.data.toList.length
  case pos =>
   obtain⟨x1,hx1⟩:∃ x,s.data.toList[k1]? =some x:=⟨_,zA0 (by omega)⟩
   repeat' (first|(apply z04;(first|refine z0l ?_| (apply z0a;(refine z02 z2p rfl rfl ?_))|(apply z0n;(refine z02 (z1o rfl (idx hx1)) rfl rfl ?_))|(apply z0z;(refine z02 (z14 z1p) rfl rfl ?_))))|(apply z05;(first|refine z0k ?_|apply z09|refine z1m ?_| refine z1t (fun _=>?_) (fun _=>?_)))|(apply z06;(first|apply z07|apply z00|refine z1b rfl ?_|apply z08|apply z01|apply z03|refine z0h (fun _=>?_) (fun _=>?_)| refine z0o ?_)))
   all_goals try (first|exact z0c Tryz.func166 _ z1j ⟨_,rfl,⟨_,rfl⟩,rfl⟩|exact z0e (ih1 (k1+1) (by omega) (by omega)) rfl rfl|(exfalso;omega)|(exfalso;simp_all;done))
  case neg =>
   repeat' (first|(apply z04;(refine z0l ?_))|(apply z05;(first|refine z0k ?_|apply z09))|(apply z06;(first|apply z07|apply z00|apply z08|apply z01|refine z0h (fun _=>?_) (fun _=>?_)| refine z0o ?_)))
   all_goals try (first|exact z0c Tryz.func166 _ z1j ⟨_,rfl,⟨_,rfl⟩,rfl⟩|(exfalso;omega)|(exfalso;simp_all;done))
theorem zpq (s:Str) (hs:s.size≤1000000) (hv:NF Tryz.prog 166 [S s] IsI):NF Tryz.prog 165 [S s] zzb:=by
 refine z4y fun H=>?_
 refine z0g Tryz.func165 (by kernel_rfl) rfl (by simp) ?_
 dsimp only[Tryz.f165]
 repeat' (first|(apply z04;(first|refine z5z (d:=6) rfl rfl rfl (by decide) ?_|refine z0l ?_| (apply z84;(refine z02 (z69 rfl (by omega) (zka (by omega) (by omega)).choose_spec) rfl rfl ?_))|(apply z0z;(refine z02 (z2q z1p) rfl rfl ?_))|(apply z0x;(refine z02 (z5q rfl) rfl rfl ?_))|(apply z0j;((refine z7a hv rfl (by decide) (fun p hp=>?_);obtain⟨_,rfl⟩:=hp)))))|(apply z05;(first|refine z0k ?_|apply z09|refine z1m ?_| refine z1t (fun _=>?_) (fun _=>?_)| refine z3v rfl rfl (fun _=>?_) (fun _=>?_)))|(apply z06;(first|apply z07|apply z00|refine z1b rfl ?_|apply z08|apply z01|refine z3o rfl (fun _=>?_) (fun _=>?_))))
 all_goals try (first|exact z0c Tryz.func165 _ z2m ⟨_,rfl,⟨_,_,rfl⟩,rfl⟩|(exfalso;omega)|(exfalso;simp_all;done))
 all_goals
  refine z0t ?_
  refine z0e (z1v (fun q:Nat × Int × List Str=>⟨69,[(0,PV.lift 1 (S s)),(5,I IntKind.i64 ↑(ByteArray.size s)),(6,PV.ref (0,6)),(7,I .i64 q.2.1),(8,I .i64 (q.1:Nat))],[(6,.row 9 1 (q.2.2.map fun x=>[z5p x]))],H⟩) (fun q:Nat × Int × List Str=>1≤q.1∧q.1≤s.size∧1≤q.2.1∧q.2.1≤q.1∧q.2.2.length<q.1) (fun q:Nat × Int × List Str=>s.size-q.1) ?_ ⟨1,_,[]⟩ (by simp;omega)) rfl rfl
  intro ⟨k1,m1_7,q1⟩ hk1 ih1
  simp only at hk1 ih1 ⊢
  by_cases hlt1:k1<s.size
  case pos =>
   repeat' (first|(apply z04;(first|refine z0l ?_| (apply z84;(refine z02 (z69 rfl (by omega) (zka (by omega) (by omega)).choose_spec) rfl rfl ?_))|(apply z0z;(refine z02 (z14 z1p) rfl rfl ?_))|(apply za8;(refine z02 (zee rfl (by omega) (by omega) (by omega)) rfl rfl ?_))|(apply z0x;(refine z97 _ rfl ?_))|(apply z3t;(refine z3s rfl ?_))))|(apply z05;(first|refine z0k ?_|apply z09))|(apply z06;(first|apply z07|apply z00|apply z08|apply z01|apply z03|refine z0h (fun _=>?_) (fun _=>?_)| refine z3o rfl (fun _=>?_) (fun _=>?_)|refine z0o ?_)))
   all_goals try (first|exact z0c Tryz.func165 _ z2m ⟨_,rfl,⟨_,_,rfl⟩,rfl⟩|(first|exact z0e (ih1 ⟨k1+1,m1_7,q1⟩ ⟨(by first|omega|(simp;omega)|(simp;done)),(by first|omega|(simp;omega)|(simp;done)),(by first|omega|(simp;omega)|(simp;done)),(by first|omega|(simp;omega)|(simp;done)),(by first|omega|(simp;omega)|(simp;done))⟩ (by first|omega|(simp;omega)|(simp;done))) rfl rfl|(refine z4x 49 6 rfl rfl ?_;exact z0e (ih1 ⟨k1+1,(k1:Int)+1,q1++[s.extract m1_7.toNat ((k1:Nat):Int).toNat]⟩ ⟨(by first|omega|(simp;omega)|(simp;done)),(by first|omega|(simp;omega)|(simp;done)),(by first|omega|(simp;omega)|(simp;done)),(by first|omega|(simp;omega)|(simp;done)),(by first|omega|(simp;omega)|(simp;done))⟩ (by first|omega|(simp;omega)|(simp;done))) rfl rfl))|(exfalso;omega)|(exfalso;simp_all;done))
  case neg =>
   repeat' (first|(apply z04;(first|refine z0l ?_| (apply z84;(refine z02 (z69 rfl (by omega) (zka (by omega) (by omega)).choose_spec) rfl rfl ?_))|(apply z0z;(refine z02 (z14 z1p) rfl rfl ?_))|(apply za8;(refine z02 (zee rfl (by omega) (by omega) (by omega)) rfl rfl ?_))|(apply z0x;(refine z97 _ rfl ?_))|(apply z3t;(refine z3s rfl ?_))))|(apply z05;(first|refine z0k ?_|apply z09))|(apply z06;(first|apply z07|apply z00|apply z08|apply z01|apply z03|refine z0h (fun _=>?_) (fun _=>?_)| refine z3o rfl (fun _=>?_) (fun _=>?_)|refine z0o ?_)))
   all_goals try (first|exact z0c Tryz.func165 _ z2m ⟨_,rfl,⟨_,_,rfl⟩,rfl⟩|(exfalso;omega)|(exfalso;simp_all;done))
   all_goals
    refine z19 6 rfl ?_
    refine z0t ?_
    refine z0e (z1v (fun k2:Nat=>⟨69,[(6,PV.frz (0,6) (D.slice (List.map (fun x=>[z5p x]) q1)) (PV.ref (0,6))),(9,I .i64 (k2:Nat))],[(6,Blk.gone)],H⟩) (fun k2:Nat=>1≤k2∧k2≤q1.length+1) (fun k2:Nat=>q1.length+1-k2) ?_ 1 (by omega)) rfl rfl
    intro k2 hk2 ih2
    by_cases hlt2:k2<q1.length
    case pos =>
     obtain⟨x2,hx2⟩:∃ x,q1[k2]? =some x:=⟨_,zA0 (by omega)⟩
     obtain⟨y2,hy2⟩:∃ x,q1[((k2:Int)-1).toNat]? =some x:=⟨_,zA0 (by omega)⟩
     repeat' (first|(apply z04;(first|refine z0l ?_| (apply z0z;(refine z02 (z14 z1p) rfl rfl ?_))|(apply z0x;(refine z02 (z0y rfl) rfl rfl ?_))))|(apply z05;(first|refine z0k ?_|apply z09))|(apply z06;(first|apply z07|apply z00|apply z08|apply z01|apply z2z|apply z03|refine z0h (fun _=>?_) (fun _=>?_)| refine z2i rfl (fun _=>?_) (fun _=>?_)|refine z0o ?_))|(apply z2v;(first|(apply z1l;refine z2n mix ?_)|refine z3h ?_| (apply z0u;(refine z0w z2p rfl rfl ?_))|(apply z1n;(first|refine z0w (z1o rfl (idx hx2)) rfl rfl ?_| refine z0w (z1o rfl (z6u hy2)) rfl rfl ?_))|(apply z3y;(first|refine z0w (z2q z1p) rfl rfl ?_| refine z0w zqr rfl rfl ?_)))))
     all_goals try (first|exact z0c Tryz.func165 _ z2m ⟨_,rfl,⟨_,_,rfl⟩,rfl⟩|exact z0e (ih2 (k2+1) (by omega) (by omega)) rfl rfl|(exfalso;omega)|(exfalso;simp_all;done))
    case neg =>
     repeat' (first|(apply z04;(first|refine z0l ?_| (apply z0x;(refine z02 (z0y rfl) rfl rfl ?_))))|(apply z05;(first|refine z0k ?_|apply z09))|(apply z06;(first|apply z07|apply z00|apply z08|apply z01|apply z2z|refine z0h (fun _=>?_) (fun _=>?_)| refine z0o ?_))|(apply z2v;(first|refine z3h ?_| (apply z3y;(refine z0w (z2q z1p) rfl rfl ?_)))))
     all_goals try (first|exact z0c Tryz.func165 _ z2m ⟨_,rfl,⟨_,_,rfl⟩,rfl⟩|(exfalso;omega)|(exfalso;simp_all;done))
theorem zrg (a:Attr) (s:Str) (hs:s.size≤1000000):NF Tryz.prog 139 [.d (.agg a.cs),S s] IsI:=by
 refine z4y fun H=>?_
 refine z0g Tryz.func139 (by kernel_rfl) rfl (by simp) ?_
 dsimp only[Tryz.f139]
 repeat' (first|(apply z04;(first|refine z0l ?_| (apply z0a;(refine z02 z18 rfl rfl ?_))|(apply z0d;(refine z02 z1a rfl rfl ?_))|(apply z0j;(first|(refine z7a (z7s s hs) rfl (by decide) (fun p hp=>?_);obtain⟨_,rfl⟩:=hp)|(refine z7a (zpq s hs (z7s s hs)) rfl (by decide) (fun p hp=>?_);obtain⟨_,_,rfl⟩:=hp)))|(apply z1c;(refine z0b z1q ?_))))|(apply z05;(first|refine z0k ?_|apply z09))|(apply z06;(first|apply z07|apply z00|apply z08|refine z2i rfl (fun _=>?_) (fun _=>?_))))
 all_goals try (first|exact z0c Tryz.func139 _ z1j ⟨_,rfl,⟨_,rfl⟩,rfl⟩|(exfalso;omega)|(exfalso;simp_all;done))
theorem zht (l:List zcn) (hl:SmP l):NF Tryz.prog 140 [.d (.slice (l.map zcn.cs))] IsI:=by
 refine z4y fun H=>?_
 refine z0g Tryz.func140 (by kernel_rfl) rfl (by simp) ?_
 dsimp only[Tryz.f140]
 have hn:=hl.1
 repeat' (first|(apply z04;(first|refine z0l ?_| (apply z0x;(refine z02 (z0y rfl) rfl rfl ?_))))|(apply z05;(first|refine z0k ?_|apply z09))|(apply z06;(first|apply z07|apply z00|apply z08|apply z01|refine z0h (fun _=>?_) (fun _=>?_))))
 all_goals try (first|exact z0c Tryz.func140 _ z1j ⟨_,rfl,⟨_,rfl⟩,rfl⟩|(exfalso;omega)|(exfalso;simp_all;done))
 all_goals
  refine z0t ?_
  refine z0e (z1v (fun k1:Nat=>⟨42,[(0,PV.lift 1 (PV.d (D.slice (List.map zcn.cs l)))),(9,PV.lift 1 (PV.d (D.slice (List.map zcn.cs l)))),(10,I IntKind.i64 ↑l.length),(11,I .i64 (k1:Nat))],[],H⟩) (fun k1:Nat=>k1≤l.length) (fun k1:Nat=>l.length-k1) ?_ 0 (zAf _)) rfl rfl
  intro k1 hk1 ih1
  by_cases hlt1:k1<l.length
  case pos =>
   obtain⟨x1,hx1⟩:∃ x,l[k1]? =some x:=⟨_,zA0 (by omega)⟩
   have hp1:=hl.2 x1 (zA2 hx1)
   by_cases h0:0<k1
   obtain⟨y1,hy1⟩:∃ x,l[((k1:Int)-1).toNat]? =some x:=⟨_,zA0 (by omega)⟩
   repeat' (first|(apply z04;(first|refine z0l ?_| (apply z0a;(first|refine z02 z18 rfl rfl ?_| refine z02 z2j rfl rfl ?_))|(apply z0d;(refine z02 z1a rfl rfl ?_))|(apply z0n;(refine z02 (z1o rfl (idx hx1)) rfl rfl ?_))|(apply z0z;(refine z02 (z14 z1p) rfl rfl ?_))|(apply z0j;(first|(refine z7a (z4z _ (by omega)) rfl (by decide) (fun p hp=>?_);obtain⟨_,rfl⟩:=hp)|(refine z7a (z7s _ (by omega)) rfl (by decide) (fun p hp=>?_);obtain⟨_,rfl⟩:=hp)))|(apply z0f;(refine z2d ?_))|(apply z0i;(refine z0b z1e ?_))))|(apply z05;(first|refine z0k ?_|apply z09))|(apply z06;(first|apply z07|apply z00|refine z1f ?_| apply z08|apply z01|apply z2z|apply z03|refine z0h (fun _=>?_) (fun _=>?_)| refine z3o rfl (fun _=>?_) (fun _=>?_)|refine z2i rfl (fun _=>?_) (fun _=>?_)|refine z0o ?_))|(apply z2v;(first|(apply z1l;refine z2n mix ?_)|refine z6r rfl rfl (by decide) ?_|refine z3h ?_| (apply z0u;(first|refine z0w z18 rfl rfl ?_| refine z0w z2p rfl rfl ?_))|(apply z0q;(first|refine z0w z1a rfl rfl ?_| refine z0w (z65 rfl rfl) rfl rfl ?_))|(apply z1n;(refine z0w (z1o rfl (z6u hy1)) rfl rfl ?_))|(apply z3y;(first|refine z0w (z2q z1p) rfl rfl ?_| refine z0w zqr rfl rfl ?_))|(refine z4b rfl rfl (fun hg=>?_) (fun hg=>?_) <;> simp only[hg] <;> (try simp only[zA3,zA5,zA6,zA8] at hg)))))
   all_goals try (first|exact z0c Tryz.func140 _ z1j ⟨_,rfl,⟨_,rfl⟩,rfl⟩|exact z0e (ih1 (k1+1) (by omega) (by omega)) rfl rfl|(exfalso;omega)|(exfalso;simp_all;done))
  case neg =>
   repeat' (first|(apply z04;(refine z0l ?_))|(apply z05;(first|refine z0k ?_|apply z09))|(apply z06;(first|apply z07|apply z00|apply z08|apply z01|refine z0h (fun _=>?_) (fun _=>?_)| refine z0o ?_)))
   all_goals try (first|exact z0c Tryz.func140 _ z1j ⟨_,rfl,⟨_,rfl⟩,rfl⟩|(exfalso;omega)|(exfalso;simp_all;done))
theorem zk2 (c:z0v) (s:Str) (hc:Small c):NF Tryz.prog 55 [c.d,S s] IsI:=by
 refine z4y fun H=>?_
 refine z0g Tryz.func55 (by kernel_rfl) rfl (by simp) ?_
 dsimp only[Tryz.f55]
 have:=hc.ntexts
 repeat' (first|(apply z04;(first|refine z0l ?_| (apply z0a;(refine z02 z18 rfl rfl ?_))|(apply z0d;(refine z02 z1a rfl rfl ?_))|(apply z0x;(refine z02 (z0y rfl) rfl rfl ?_))|(apply z1c;(refine z0b z1q ?_))))|(apply z05;(first|refine z0k ?_|apply z09))|(apply z06;(first|apply z07|apply z00|apply z01)))
 all_goals try (first|exact z0c Tryz.func55 _ z1j ⟨_,rfl,⟨_,rfl⟩,rfl⟩|(exfalso;omega)|(exfalso;simp_all;done))
 all_goals
  refine z0t ?_
  refine z0e (z1v (fun k1:Nat=>⟨21,[(1,PV.lift 1 (S s)),(8,PV.d (D.slice (List.map Text.cs c.texts))),(9,I IntKind.i64 ↑c.texts.length),(10,I .i64 (k1:Nat))],[],H⟩) (fun k1:Nat=>k1≤c.texts.length) (fun k1:Nat=>c.texts.length-k1) ?_ 0 (zAf _)) rfl rfl
  intro k1 hk1 ih1
  by_cases hlt1:k1<c.texts.length
  case pos =>
   obtain⟨x1,hx1⟩:∃ x,c.texts[k1]? =some x:=⟨_,zA0 (by first|omega|(simp;omega))⟩
   repeat' (first|(apply z04;(first|refine z0l ?_| (apply z0a;(first|refine z02 z18 rfl rfl ?_| refine z02 z2j rfl rfl ?_))|(apply z0d;(refine z02 z1a rfl rfl ?_))|(apply z0n;(refine z02 (z1o rfl (idx hx1)) rfl rfl ?_))|(apply z0z;(refine z02 (z14 z1p) rfl rfl ?_))|(apply z0f;(refine z2d ?_))|(apply z0i;(refine z0b z1e ?_))))|(apply z05;(first|refine z0k ?_|apply z09))|(apply z06;(first|apply z07|apply z00|apply z08|apply z01|apply z03|refine z0h (fun _=>?_) (fun _=>?_)| refine z0o ?_)))
   all_goals try (first|exact z0c Tryz.func55 _ z1j ⟨_,rfl,⟨_,rfl⟩,rfl⟩|exact z0e (ih1 (k1+1) (by omega) (by omega)) rfl rfl|(exfalso;omega)|(exfalso;simp_all;done))
  case neg =>
   repeat' (first|(apply z04;(refine z0l ?_))|(apply z05;(first|refine z0k ?_|apply z09))|(apply z06;(first|apply z07|apply z00|apply z08|apply z01|refine z0h (fun _=>?_) (fun _=>?_)| refine z0o ?_)))
   all_goals try (first|exact z0c Tryz.func55 _ z1j ⟨_,rfl,⟨_,rfl⟩,rfl⟩|(exfalso;omega)|(exfalso;simp_all;done))
end Go.Proofs.YtonhfccmeammbaaGreatDoor
