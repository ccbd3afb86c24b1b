/- A part. -/
import Derived.Test.YtonhfccmeammbaaGreatDoorVc
import Derived.Test.YtonhfccmeammbaaGreatDoorVx
set_option linter.all false
namespace Go.Wd
open Go.Ab
def nb(f:Nat→Bool):Nat→Nat
 | 0=>0
 | k+1=>2 ^ k*(if f k then 1 else 0)+nb f k
theorem zni(f:Nat→Bool):∀k,nb f k<2 ^ k
 | 0=>by simp[nb]
 | k+1=>by
  have:=zni f k
  rw[nb,Nat.pow_succ]
  split <;> omega
theorem zfu(f:Nat→Bool):∀k i,(nb f k).testBit i=(decide (i<k)&&f i)
 | 0,i=>by simp[nb]
 | k+1,i=>by
  rw[nb,Nat.testBit_two_pow_mul_add _ (zni f k)]
  by_cases h:i<k
  ·rw[zAz h,zfu f k i]
   simp[h,show i<k+1 by omega]
  ·rw[zAy h]
   by_cases h2:i=k
   ·subst h2
    rw[Nat.sub_self]
    cases hf:f i <;> simp
   ·have:i-k≠0:=by omega
    obtain⟨j,hj⟩:∃j,i-k=j+1:=⟨i-k-1,by omega⟩
    rw[hj,show decide (i<k+1)=false by simp;omega]
    cases f k <;> simp[Nat.testBit_succ]
theorem zp1{f:Nat→Bool}{k x:Nat}(hx:x<2 ^ k)(h:∀i,i<k→x.testBit i=f i):x=nb f k:=by
 apply Nat.eq_of_testBit_eq
 intro i
 rw[zfu]
 by_cases hi:i<k
 ·simp[hi,h i hi]
 ·simp only[hi,decide_false,Bool.false_and]
  exact Nat.testBit_lt_two_pow (zAx hx (Nat.pow_le_pow_right (by decide) (by omega)))
theorem zn7{f g:Nat→Bool}{k:Nat}(h:∀i,i<k→f i=g i):nb f k=nb g k :=
 zp1 (zni f k) fun i hi=>by rw[zfu];simp[hi,h i hi]
theorem y4q{x:Nat}(h:x<2 ^ 64):IntKind.u64.wrap (x:Int)=x:=y3a (by omega) (by omega)
theorem ofn{x:Nat}(h:x<2 ^ 64):(BitVec.ofInt IntKind.u64.bits (x:Int)).toNat=x:=by
 show(BitVec.ofInt 64 (x:Int)).toNat=x
 rw[BitVec.toNat_ofInt];omega
theorem orN{x y:Nat}(hx:x<2 ^ 64)(hy:y<2 ^ 64):orV .u64 (x:Int) (y:Int)=((x ||| y:Nat):Int):=by
 rw[orV,BitVec.toNat_or,ofn hx,ofn hy,y4q (Nat.or_lt_two_pow hx hy)]
theorem y6c{x:Nat}(hx:x<2 ^ 64):zqe .u64 (x:Int) 1=((x % 2:Nat):Int):=by
 have h1:=ofn (x:=1) (by decide)
 rw[zqe,BitVec.toNat_and,ofn hx]
 rw[show((1:Int))=((1:Nat):Int)from rfl,h1,Nat.and_one_is_mod,y4q (by omega)]
theorem y5a{b:Nat}(hb:b<64):zva .u64 1 (b:Int)=((2 ^ b:Nat):Int):=by
 have h3:2 ^ b<2 ^ 64:=Nat.pow_lt_pow_right (by decide) hb
 have h1:min (b:Int).toNat IntKind.u64.bits=b:=by
  show min (b:Int).toNat 64=b
  rw[zA9];omega
 rw[zva,h1,show(1*2 ^ b:Int)=((2 ^ b:Nat):Int) by rw[Int.one_mul];exact(Int.natCast_pow 2 b).symm]
 exact y4q h3
theorem y6r(x:Nat){b:Nat}(hb:b<64):zua .u64 (x:Int) (b:Int)=((x / 2 ^ b:Nat):Int):=by
 rw[zqq (by omega) (by show(b:Int).toNat≤64;omega),zA9,Int.natCast_ediv,Int.natCast_pow]
 rfl
attribute [local irreducible] nb
theorem y2n(f g:Nat→Bool):orV .u64 (nb f 64) (nb g 64)=(nb (fun i=>f i||g i) 64:Nat):=by
 have hf:=zni f 64
 have hg:=zni g 64
 rw[orN hf hg]
 congr 1
 refine zp1 (Nat.or_lt_two_pow hf hg) fun i hi=>?_
 rw[Nat.testBit_or,zfu,zfu]
 simp[hi]
theorem y2p{b:Nat}(hb:b<64):zva .u64 1 (b:Int)=(nb (fun i=>i == b) 64:Nat):=by
 rw[y5a hb]
 congr 1
 refine zp1 (Nat.pow_lt_pow_right (by decide) hb) fun i hi=>?_
 rw[Nat.testBit_two_pow]
 by_cases h:b=i
 ·simp[h]
 ·simp[h,Ne.symm h]
theorem y1f(f:Nat→Bool){b:Nat}(hb:b<64):decide (zqe .u64 (zua .u64 (nb f 64:Nat) (b:Int)) 1=1)=f b:=by
 have hf:=zni f 64
 have hb2:=zfu f 64 b
 rw[Nat.testBit_eq_decide_div_mod_eq]at hb2
 simp only[hb,decide_true,Bool.true_and]at hb2
 generalize nb f 64=x at hf hb2⊢
 have hlt:x / 2 ^ b<2 ^ 64:=Nat.lt_of_le_of_lt (Nat.div_le_self _ _) hf
 rw[y6r x hb,y6c hlt,←hb2,decide_eq_decide]
 generalize x / 2 ^ b=y
 omega
def wN(p:Nat→Bool)(w:Nat):Nat:=nb (fun b=>p (64*w+b)) 64
abbrev u6(x:Nat):List D:=[.lit (.int .u64 ((x:Nat):Int))]
def wl(n:Nat)(p:Nat→Bool):List Nat:=(List.range (n / 64+1)).map (wN p)
abbrev wds(n:Nat)(p:Nat→Bool):List (List D):=(wl n p).map u6
theorem zpc(n:Nat)(p:Nat→Bool):(wl n p).length=n / 64+1:=by simp[wl]
theorem z8j(n:Nat)(p:Nat→Bool):(wds n p).length=n / 64+1:=by simp[wl]
theorem zcq(n:Nat)(p:Nat→Bool){w:Nat}(h:w<n / 64+1):(wl n p)[w]? =some (wN p w):=by
 rw[wl,zAd,List.getElem?_range h];rfl
theorem y5l(w:Nat):wN (fun _=>false) w=0:=by
 have h:∀k,nb (fun _=>false) k=0:=fun k=>by induction k with
  | zero=>rw[nb]
  | succ k ih=>rw[nb,ih];simp
 exact h 64
def zil(p:Nat→Bool)(i:Nat):Nat→Bool:=fun j=>p j||j == i
def orP(p q:Nat→Bool):Nat→Bool:=fun j=>p j||q j
theorem y1n(p:Nat→Bool)(i:Nat):orV .u64 (wN p (i / 64):Nat) (zva .u64 1 ((i % 64:Nat):Int))=(wN (zil p i) (i / 64):Nat):=by
 rw[y2p (Nat.mod_lt _ (by decide)),wN,y2n]
 congr 1
 refine zn7 fun b hb=>?_
 simp only[zil]
 congr 1
 rw[Bool.eq_iff_iff]
 simp
 omega
theorem zyh(p:Nat→Bool){i w:Nat}(h:w≠i / 64):wN (zil p i) w=wN p w:=by
 refine zn7 fun b hb=>?_
 simp only[zil]
 have:(64*w+b == i)=false:=by simp;omega
 rw[this,Bool.or_false]
theorem zmd{n:Nat}{l:List Nat}{p:Nat→Bool}(h1:l.length=n / 64+1)(h:∀s,s<n / 64+1→l[s]? =some (wN p s)):l=wl n p:=by
 apply List.ext_getElem?
 intro s
 by_cases h2:s<n / 64+1
 ·rw[h s h2,zcq n p h2]
 ·rw[zAv (by omega),zAv (by rw[zpc];omega)]
theorem y3x(n:Nat)(p:Nat→Bool){i:Nat}(h:i≤n):(wl n p).set (i / 64) (wN (zil p i) (i / 64))=wl n (zil p i):=by
 refine zmd (by rw[List.length_set,zpc]) fun s hs=>?_
 by_cases h2:i / 64=s
 ·subst h2;rw[zAp (by rw[zpc];omega)]
 ·rw[List.getElem?_set_ne h2,zcq _ _ hs,zyh p (Ne.symm h2)]
def wj(n:Nat)(p q:Nat→Bool)(k:Nat):List Nat:=(List.range (n / 64+1)).map fun w=>if w<k then wN (fun j=>p j||q j) w else wN p w
theorem ze4(n:Nat)(p q:Nat→Bool)(k:Nat):(wj n p q k).length=n / 64+1:=by simp[wj]
theorem zfr(n:Nat)(p q:Nat→Bool)(k:Nat){w:Nat}(h:w<n / 64+1):(wj n p q k)[w]? =some (if w<k then wN (fun j=>p j||q j) w else wN p w):=by
 rw[wj,zAd,List.getElem?_range h];rfl
theorem zqt(n:Nat)(p q:Nat→Bool):wj n p q 0=wl n p:=zmd (ze4 n p q 0) fun s hs=>by rw[zfr _ _ _ _ hs,zAy (Nat.not_lt_zero _)]
theorem zvz(n:Nat)(p q:Nat→Bool):wj n p q (n / 64+1)=wl n (fun j=>p j||q j):=zmd (ze4 n p q _) fun s hs=>by rw[zfr _ _ _ _ hs,zAz hs]
theorem zqd(n:Nat)(p q:Nat→Bool){k:Nat}(hk:k<n / 64+1):(wj n p q k).set k (wN (fun j=>p j||q j) k)=wj n p q (k+1):=by
 apply List.ext_getElem?
 intro s
 by_cases h2:s<n / 64+1
 ·rw[zfr _ _ _ _ h2]
  by_cases h:k=s
  ·subst h;rw[zAp (by rw[ze4];omega),zAz (by omega)]
  ·rw[List.getElem?_set_ne h,zfr _ _ _ _ h2]
   by_cases h3:s<k
   ·rw[zAz h3,zAz (by omega)]
   ·rw[zAy h3,zAy (by omega)]
 ·rw[zAv (by rw[List.length_set,ze4];omega),zAv (by rw[ze4];omega)]
theorem zz2(p q:Nat→Bool)(w:Nat):orV .u64 (wN p w:Nat) (wN q w:Nat)=(wN (orP p q) w:Nat):=by rw[wN,wN,y2n];rfl
theorem zx2(p:Nat→Bool)(i:Nat):decide (zqe .u64 (zua .u64 (wN p (i / 64):Nat) ((i % 64:Nat):Int)) 1=1)=p i:=by
 rw[wN,y1f _ (Nat.mod_lt _ (by decide)),Nat.div_add_mod]
abbrev Rl:=Nat→Nat→Bool
def rlX(n:Nat)(a:Rl):List (List (List D)):=(List.range (n+1)).map fun i=>wds n (a i)
theorem z2k(n:Nat)(a:Rl):(rlX n a).length=n+1:=by simp[rlX]
theorem z7r(n:Nat)(a:Rl){i:Nat}(h:i≤n):(rlX n a)[i]? =some (wds n (a i)):=by
 rw[rlX,zAd,List.getElem?_range (by omega)];rfl
def zm5(a:Rl)(i:Nat)(p:Nat→Bool):Rl:=fun i'=>if i'=i then p else a i'
theorem zde(n:Nat)(a:Rl)(i:Nat)(p:Nat→Bool):(rlX n a).set i (wds n p)=rlX n (zm5 a i p):=by
 apply List.ext_getElem?
 intro s
 by_cases h:s<n+1
 ·rw[z7r n _ (by omega:s≤n)]
  by_cases hs:i=s
  ·subst hs
   rw[zAp (by rw[z2k];exact h),zm5,zAz rfl]
  ·rw[List.getElem?_set_ne hs,z7r n a (by omega),zm5,zAy (Ne.symm hs)]
 ·rw[zAv (by rw[List.length_set,z2k];omega),zAv (by rw[z2k];omega)]
end Go.Wd
namespace Go.Wd
open Go.Rx
abbrev ffR:Rl:=fun _ _=>false
def idR:Rl:=fun i j=>i == j
def orR(a b:Rl):Rl:=fun i j=>a i j||b i j
def zpy(a b:Rl)(i k:Nat):Nat→Bool:=fun j=>(List.range k).any fun k'=>a i k'&&b k' j
def zol(n:Nat)(a b:Rl):Rl:=fun i=>zpy a b i (n+1)
def wf1(S:Rl)(k i:Nat):Rl:=if S i k=true then zm5 S i (fun j=>S i j||S k j)else S
def wfI(k:Nat)(S:Rl):Nat→Rl
 | 0=>S
 | t+1=>wf1 (wfI k S t) k t
def wfO(n:Nat)(S:Rl):Nat→Rl
 | 0=>S
 | t+1=>wfI t (wfO n S t) (n+1)
def ztx(n:Nat)(kid:Rl):Rl:=wfO n (orR idR kid) (n+1)
def zhr(n:Nat)(kid:Rl):Nat→Rl
 | 0=>idR
 | t+1=>zol n (zhr n kid t) kid
def zjp(n:Nat)(kid:Rl)(m:Nat):Nat→Rl
 | 0=>orR ffR (zhr n kid m)
 | t+1=>orR (zjp n kid m t) (zhr n kid (m+t+1))
def y49(n:Nat)(mn mx:Int)(kid:Rl):Rl:=if mx<0 then zol n (zhr n kid mn.toNat) (ztx n kid)else zjp n kid mn.toNat (mx-mn).toNat
def zbh(ok:Int→List (Int × Int)→Bool)(l:List Int)(rs:List (Int × Int))(k:Nat):Rl:=fun i j=>decide (i<k)&&(match l[i]? with|some c=>ok c rs|none=>false)&&j == i+1
mutual
def zkf(ok:Int→List (Int × Int)→Bool)(l:List Int):Rx→Rl
 | .mk op mn mx rs ks=>if op=1 then zbh ok l rs l.length else if op=2 then zu8 ok l idR ks else if op=3 then zss ok l ffR ks else y49 l.length mn mx (y4d ok l ks)
def zu8(ok:Int→List (Int × Int)→Bool)(l:List Int):Rl→List Rx→Rl
 | acc,[]=>acc
 | acc,k::ks=>zu8 ok l (zol l.length acc (zkf ok l k)) ks
def zss(ok:Int→List (Int × Int)→Bool)(l:List Int):Rl→List Rx→Rl
 | acc,[]=>acc
 | acc,k::ks=>zss ok l (orR acc (zkf ok l k)) ks
def y4d(ok:Int→List (Int × Int)→Bool)(l:List Int):List Rx→Rl
 | []=>ffR
 | k::_=>zkf ok l k
end
def sg(l:List Int)(i j:Nat):List Int:=(l.drop i).take (j-i)
theorem zn0{l:List Int}{i j:Nat}(h:i≤j)(hj:j≤l.length):(sg l i j).length=j-i:=by simp[sg];omega
theorem zqr{l:List Int}{i k j:Nat}(h1:i≤k)(h2:k≤j)(hj:j≤l.length):sg l i j=sg l i k++sg l k j:=by
 rw[sg,sg,sg]
 have e:l.drop k=(l.drop i).drop (k-i):=by rw[List.drop_drop];congr 1;omega
 rw[e,show j-i=(k-i)+(j-k) by omega,List.take_add]
theorem zwt{l:List Int}{i j:Nat}{u v:List Int}(h:i≤j)(hj:j≤l.length)(e:sg l i j=u++v):i+u.length≤j∧sg l i (i+u.length)=u∧sg l (i+u.length) j=v:=by
 have hl:=zn0 h hj
 rw[e,zAa]at hl
 have h1:i+u.length≤j:=by omega
 have h2:=zqr (l:=l) (i:=i) (k:=i+u.length) (j:=j) (by omega) h1 hj
 rw[e]at h2
 have h3:=List.append_inj h2 (by rw[zn0 (by omega) (by omega)];omega)
 exact⟨h1,h3.1.symm,h3.2.symm⟩
theorem y3z(l:List Int)(i:Nat):sg l i i=[]:=by simp[sg]
def Sy(l:List Int)(r:Rl)(P:Lan):Prop:=∀i j,i≤l.length→j≤l.length→(r i j=true↔i≤j∧P (sg l i j))
theorem Sy.congr{l:List Int}{r:Rl}{P Q:Lan}(h:Sy l r P)(e:∀w,P w↔Q w):Sy l r Q:=fun i j hi hj=>(h i j hi hj).trans (and_congr_right fun _=>e _)
theorem zt0(l:List Int):Sy l idR eps:=fun i j hi hj=>by
 simp only[idR,beq_iff_eq]
 constructor
 ·rintro rfl;exact⟨zAj _,y3z l i⟩
 ·rintro⟨h,e⟩
  have:=zn0 h hj
  rw[show sg l i j=[]from e]at this
  simp at this;omega
theorem zq9{l:List Int}{a b:Rl}{P Q:Lan}(h1:Sy l a P)(h2:Sy l b Q):Sy l (zol l.length a b) (cat P Q):=fun i j hi hj=>by
 simp only[zol,zpy,List.any_eq_true,List.mem_range,zA7]
 constructor
 ·rintro⟨k,hk,ha,hb⟩
  obtain⟨g1,g2⟩:=(h1 i k hi (by omega)).1 ha
  obtain⟨g3,g4⟩:=(h2 k j (by omega) hj).1 hb
  exact⟨by omega,_,_,zqr g1 g3 hj,g2,g4⟩
 ·rintro⟨h,u,v,e,hu,hv⟩
  obtain⟨g1,g2,g3⟩:=zwt h hj e
  exact⟨i+u.length,by omega,(h1 _ _ hi (by omega)).2 ⟨by omega,by rw[g2];exact hu⟩,(h2 _ _ (by omega) hj).2 ⟨g1,by rw[g3];exact hv⟩⟩
theorem zzw{l:List Int}{a b:Rl}{P Q:Lan}(h1:Sy l a P)(h2:Sy l b Q):Sy l (orR a b) (fun w=>P w∨Q w):=fun i j hi hj=>by
 rw[orR,zAu,h1 i j hi hj,h2 i j hi hj,←and_or_left]
theorem y1x(l:List Int):Sy l ffR (fun _=>False):=fun i j hi hj=>by simp
theorem y35(ok:Int→List (Int × Int)→Bool)(l:List Int)(rs:List (Int × Int)):Sy l (zbh ok l rs l.length) (fun w=>∃c,w=[c]∧ok c rs=true):=fun i j hi hj=>by
 simp only[zbh,zA7,zA3,beq_iff_eq]
 constructor
 ·rintro⟨⟨h1,h2⟩,rfl⟩
  have hg:l[i]? =some l[i]:=zA0 h1
  rw[hg]at h2
  refine⟨by omega,l[i],?_,h2⟩
  rw[sg,show i+1-i=1 by omega,List.drop_eq_getElem_cons h1];rfl
 ·rintro⟨h,c,e,hc⟩
  have hl:=zn0 h hj
  rw[e]at hl
  simp at hl
  have h1:i<l.length:=by omega
  have hj2:j=i+1:=by omega
  subst hj2
  rw[sg,show i+1-i=1 by omega]at e
  refine⟨⟨h1,?_⟩,rfl⟩
  have hg:l[i]? =some c:=by
   have:=congrArg (fun x:List Int=>x[0]?) e
   simpa using this
  rw[hg];exact hc
theorem zll{l:List Int}{a:Rl}{P:Lan}(h:Sy l a P):∀t,Sy l (zhr l.length a t) (pow P t)
 | 0=>zt0 l
 | t+1=>(zq9 (zll h t) h).congr fun w=>by
  rw[pow_add P t 1 w]
  exact z6q (fun _=>Iff.rfl) (fun w=>(pow_one P w).symm) w
theorem zx7{l:List Int}{a:Rl}{P:Lan}(h:Sy l a P)(m:Nat):∀t,Sy l (zjp l.length a m t) (fun w=>∃k,m≤k∧k≤m+t∧pow P k w)
 | 0=>(zzw (y1x l) (zll h m)).congr fun w=>by
  constructor
  ·rintro(h|h)
   ·exact h.elim
   ·exact⟨m,zAj _,zAj _,h⟩
  ·rintro⟨k,h1,h2,h3⟩
   obtain rfl:k=m:=by omega
   exact .inr h3
 | t+1=>(zzw (zx7 h m t) (zll h (m+t+1))).congr fun w=>by
  constructor
  ·rintro(⟨k,h1,h2,h3⟩|h)
   ·exact⟨k,h1,by omega,h3⟩
   ·exact⟨m+t+1,by omega,by omega,h⟩
  ·rintro⟨k,h1,h2,h3⟩
   by_cases h4:k≤m+t
   ·exact .inl ⟨k,h1,h4,h3⟩
   ·obtain rfl:k=m+t+1:=by omega
    exact .inr h3
def Pt(S:Rl):Nat→Nat→Nat→Prop
 | 0,i,j=>S i j=true
 | t+1,i,j=>Pt S t i j∨(Pt S t i t∧Pt S t t j)
theorem Pt.comp{S:Rl}:∀(t i k j:Nat),k<t→Pt S t i k→Pt S t k j→Pt S t i j
 | 0,i,k,j,h,_,_=>absurd h (Nat.not_lt_zero _)
 | t+1,i,k,j,h,h1,h2=>by
  by_cases hk:k<t
  ·have c:=fun i j=>Pt.comp (S:=S) t i k j hk
   rcases h1 with h1|⟨a1,a2⟩ <;> rcases h2 with h2|⟨b1,b2⟩
   ·exact .inl (c i j h1 h2)
   ·exact .inr ⟨c i t h1 b1,b2⟩
   ·exact .inr ⟨a1,c t j a2 h2⟩
   ·exact .inr ⟨a1,b2⟩
  ·obtain rfl:k=t:=by omega
   have e1:Pt S k i k:=by rcases h1 with h|h;exact h;exact h.1
   have e2:Pt S k k j:=by rcases h2 with h|h;exact h;exact h.2
   exact .inr ⟨e1,e2⟩
theorem Pt.mono{S:Rl}{i j:Nat}(h:S i j=true):∀t,Pt S t i j
 | 0=>h
 | t+1=>.inl (Pt.mono h t)
theorem Pt.sound{S:Rl}{Q:Nat→Nat→Prop}{n:Nat}(h0:∀i j,i≤n→j≤n→S i j=true→Q i j)(ht:∀i k j,i≤n→k≤n→j≤n→Q i k→Q k j→Q i j):∀t,t≤n+1→∀i j,i≤n→j≤n→Pt S t i j→Q i j
 | 0,_,i,j,hi,hj,h=>h0 i j hi hj h
 | t+1,hle,i,j,hi,hj,h=>by
  rcases h with h|⟨h1,h2⟩
  ·exact Pt.sound h0 ht t (by omega) i j hi hj h
  ·exact ht i t j hi (by omega) hj (Pt.sound h0 ht t (by omega) i t hi (by omega) h1) (Pt.sound h0 ht t (by omega) t j (by omega) hj h2)
theorem z9h{S:Rl}{k:Nat}(hr:S k k=true):∀t i j,(wfI k S t i j=true↔(S i j=true∨(i<t∧S i k=true∧S k j=true)))
 | 0,i,j=>by simp[wfI]
 | t+1,i,j=>by
  have hk:∀j,wfI k S t k j=S k j:=fun j=>by
   rw[Bool.eq_iff_iff,z9h hr t k j]
   constructor
   ·rintro(h|⟨_,_,h⟩) <;> exact h
   ·exact .inl
  have hik:∀i,wfI k S t i k=S i k:=fun i=>by
   rw[Bool.eq_iff_iff,z9h hr t i k]
   constructor
   ·rintro(h|⟨_,h,_⟩) <;> exact h
   ·exact .inl
  have ht:∀j,wfI k S t t j=S t j:=fun j=>by
   rw[Bool.eq_iff_iff,z9h hr t t j]
   constructor
   ·rintro(h|⟨h,_⟩)
    ·exact h
    ·exact absurd h (Nat.lt_irrefl _)
   ·exact .inl
  rw[wfI,wf1,hik t]
  by_cases h:S t k=true
  ·rw[zAz h]
   simp only[zm5]
   by_cases hit:i=t
   ·subst hit
    rw[zAz rfl,zAu,ht,hk]
    constructor
    ·rintro(h1|h1)
     ·exact .inl h1
     ·exact .inr ⟨by omega,h,h1⟩
    ·rintro(h1|⟨_,_,h1⟩)
     ·exact .inl h1
     ·exact .inr h1
   ·rw[zAy hit,z9h hr t i j]
    constructor
    ·exact zD69
    ·exact zD69
  ·rw[zAy h,z9h hr t i j]
   constructor
   ·exact zD69
   ·rintro(h1|⟨h1,h2,h3⟩)
    ·exact .inl h1
    ·refine .inr ⟨?_,h2,h3⟩
     have:i≠t:=fun e=>h (e▸h2)
     omega
theorem zlg{n:Nat}{S:Rl}(hr:∀i,S i i=true):∀t,t≤n+1→∀i j,i≤n→(wfO n S t i j=true↔Pt S t i j)
 | 0,_,i,j,_=>Iff.rfl
 | t+1,hle,i,j,hi=>by
  have ih:=zlg (n:=n) hr t (by omega)
  rw[wfO,z9h ((ih t t (by omega)).2 (Pt.mono (hr t) t)),ih i j hi,ih i t hi,ih t j (by omega),Pt]
  constructor
  ·rintro(h|⟨_,h⟩)
   ·exact .inl h
   ·exact .inr h
  ·rintro(h|h)
   ·exact .inl h
   ·exact .inr ⟨by omega,h⟩
theorem zy9{l:List Int}{a:Rl}{P:Lan}(h:Sy l a P):Sy l (ztx l.length a) (star P):=fun i j hi hj=>by
 have hr:∀i,orR idR a i i=true:=fun i=>by simp[orR,idR]
 rw[ztx,zlg hr _ (zAj _) i j hi]
 constructor
 ·refine fun hp=>Pt.sound (Q:=fun i j=>i≤j∧star P (sg l i j)) (n:=l.length) (fun i j hi hj hs=>?_) (fun i k j hi hk hj h1 h2=>?_) _ (zAj _) i j hi hj hp
  ·rw[orR,zAu]at hs
   rcases hs with hs|hs
   ·obtain⟨g1,g2⟩:=(zt0 l i j hi hj).1 hs
    exact⟨g1,0,g2⟩
   ·obtain⟨g1,g2⟩:=(h i j hi hj).1 hs
    exact⟨g1,1,(pow_one P _).2 g2⟩
  ·obtain⟨g1,x,g2⟩:=h1
   obtain⟨g3,y,g4⟩:=h2
   exact⟨by omega,x+y,(pow_add P x y _).2 ⟨_,_,zqr g1 g3 hj,g2,g4⟩⟩
 ·rintro⟨hij,t,ht⟩
  induction t generalizing i with
  | zero =>
   refine Pt.mono ?_ _
   rw[orR,zAu]
   exact .inl ((zt0 l i j hi hj).2 ⟨hij,ht⟩)
  | succ t ih =>
   obtain⟨u,v,e,hu,hv⟩:=ht
   obtain⟨g1,g2,g3⟩:=zwt hij hj e
   refine Pt.comp _ i (i+u.length) j (by omega) (Pt.mono ?_ _) (ih (i+u.length) (by omega) g1 (by rw[g3];exact hv))
   rw[orR,zAu]
   exact .inr ((h _ _ hi (by omega)).2 ⟨by omega,by rw[g2];exact hu⟩)
theorem y2b{l:List Int}{a:Rl}{P:Lan}(h:Sy l a P){mn mx:Int}(h0:0≤mn)(h1:mx=-1∨mn≤mx):Sy l (y49 l.length mn mx a) (fun w=>∃n:Nat,mn≤n∧(mx=-1∨(n:Int)≤mx)∧pow P n w):=by
 rw[y49]
 by_cases hx:mx<0
 ·rw[zAz hx]
  obtain rfl:mx=-1:=by omega
  refine(zq9 (zll h mn.toNat) (zy9 h)).congr fun w=>?_
  constructor
  ·rintro⟨u,v,e,g1,t,g2⟩
   exact⟨mn.toNat+t,by omega,.inl rfl,(pow_add P _ _ _).2 ⟨u,v,e,g1,g2⟩⟩
  ·rintro⟨n,g1,_,g2⟩
   obtain⟨t,rfl⟩:∃t,n=mn.toNat+t:=⟨n-mn.toNat,by omega⟩
   obtain⟨u,v,e,g3,g4⟩:=(pow_add P _ _ _).1 g2
   exact⟨u,v,e,g3,t,g4⟩
 ·rw[zAy hx]
  refine(zx7 h mn.toNat (mx-mn).toNat).congr fun w=>?_
  constructor
  ·rintro⟨k,g1,g2,g3⟩;exact⟨k,by omega,.inr (by omega),g3⟩
  ·rintro⟨k,g1,g2,g3⟩;exact⟨k,by omega,by omega,g3⟩
theorem zsc(ok:Int→List (Int × Int)→Bool)(l:List Int):(∀e:Rx,vns e=true→Sy l (zkf ok l e) (L ok e)) ∧
 ∀ks:List Rx,(∀k∈ks,vns k=true)→(∀acc P,Sy l acc P→Sy l (zu8 ok l acc ks) (cat P (LC ok ks)))∧(∀acc P,Sy l acc P→Sy l (zss ok l acc ks) fun w=>P w∨LU ok ks w)∧(ks≠[]→Sy l (y4d ok l ks) (L1 ok ks)):=by
 refine Rx.ind (fun op mn mx rs ks ih hv=>?_) (fun _=>⟨fun acc P h=>?_,fun acc P h=>?_,fun h=>absurd rfl h⟩) fun k ks hk ih hv=>?_
 ·rw[vns,zA7]at hv
  obtain⟨h1,h2⟩:=hv
  obtain⟨i1,i2,i3⟩:=ih (z5g h2)
  rw[zkf,L]
  by_cases o1:op=1
  ·simp only[zAz o1];exact y35 ok l rs
  ·simp only[zAy o1]
   by_cases o2:op=2
   ·simp only[zAz o2]
    exact(i1 _ _ (zt0 l)).congr fun w=>zhg _ w
   ·simp only[zAy o2]
    by_cases o3:op=3
    ·simp only[zAz o3]
     exact(i2 _ _ (y1x l)).congr fun w=>by simp
    ·simp only[zAy o3]
     rw[vn,zAy o1,zAy o2,zAy o3]at h1
     by_cases o4:op=4
     ·rw[zAz o4]at h1
      simp only[zA7,zAu,zA3]at h1
      obtain⟨⟨⟨⟨_,g1⟩,g2⟩,_⟩,g3⟩:=h1
      refine y2b (i3 fun e=>by rw[e]at g1;simp at g1) g2 ?_
      rcases g3 with g3|g3
      ·exact .inl g3
      ·exact .inr g3.1
     ·rw[zAy o4]at h1;cases h1
 ·rw[zu8,LC];exact h.congr fun w=>(zdq P w).symm
 ·rw[zss,LU];exact h.congr fun w=>by simp
 ·have hv':∀x∈ks,vns x=true:=fun x hx=>hv x (by simp[hx])
  obtain⟨i1,i2,i3⟩:=ih hv'
  have hk':=hk (hv k (by simp))
  refine⟨fun acc P h=>?_,fun acc P h=>?_,fun _=>?_⟩
  ·rw[zu8,LC]
   exact(i1 _ _ (zq9 h hk')).congr fun w=>z8v P _ _ w
  ·rw[zss,LU]
   exact(i2 _ _ (zzw h hk')).congr fun w=>or_assoc
  ·rw[y4d,L1];exact hk'
theorem zmv(ok:Int→List (Int × Int)→Bool)(l:List Int)(e:Rx)(hv:vns e=true):zkf ok l e 0 l.length=true↔L ok e l:=by
 rw[(zsc ok l).1 e hv 0 l.length (zAf _) (zAj _)]
 rw[show sg l 0 l.length=l by simp[sg]]
 exact⟨fun h=>h.2,fun h=>⟨zAf _,h⟩⟩
end Go.Wd
