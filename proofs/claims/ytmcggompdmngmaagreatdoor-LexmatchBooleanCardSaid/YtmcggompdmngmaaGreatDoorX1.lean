/- A part. -/
import Derived.Test.YtmcggompdmngmaaGreatDoorXy
import Derived.Test.YtmcggompdmngmaaGreatDoorXv
set_option linter.all false
open Go.Proofs.Tryz
namespace Go.Proofs.YtmcggompdmngmaaGreatDoor
open Go.Ab Go.Ax
set_option maxHeartbeats 20000000
set_option maxRecDepth 100000
attribute [local irreducible] Run Ops Op1 z0y Val Tr z0a z0u NF Rel z27 z29
abbrev z3g(x:Arc):List D:=[z1b x.1,z1b x.2.1,z2i x.2.2]
abbrev zde(l:List Arc):D:=.slice (l.map z3g)
abbrev z7m(l:List Arc):List D:=[zde l]
abbrev zio(F:List Bool):D:=.slice (F.map fun b=>[zdm b])
abbrev auc(a:Au):List D:=[zio a.F,.slice (a.A.map z7m)]
abbrev auD(a:Au):D:=.agg (auc a)
def zqr(a:Au):Prop:=a.F.length≤9223372036854775807∧a.A.length≤9223372036854775807∧∀l∈a.A,l.length≤9223372036854775807
def y50(l:List Arc)(i:Nat):Option Arc:=if i=0 then none else l[i-1]?
theorem zb0(a:Au)(hf:zqr a):z0a prog 37 [.d (auD a)] (I .i64 (vAu a)):=by
 obtain⟨F,A⟩:=a
 obtain⟨f1,f2,f3⟩:=hf
 simp only at f1 f2 f3
 refine z0q fun H=>?_
 refine z05 func37 (by kernel_rfl) rfl (by simp) ?_
 dsimp only[f37]
 rw[vAu]
 simp only
 by_cases h1:256<F.length
 ·rw[zAz h1]
  all_goals exact zD88
 rw[zAy h1]
 by_cases h2:F.length=0∨A.length≠F.length
 ·rw[zAz h2]
  all_goals exact zD88
 rw[zAy h2]
 have e1:A.length=F.length:=by omega
 have e2:0<F.length:=by omega
 repeat' first|(apply z1n;refine z09 z3s ?_)|refine z04 ?_|refine fk (fun _=>?_) fun _=>?_
 all_goals try (exfalso;simp only[zA4]at *;omega)
 refine z0f ?_
 refine z00 (z0s (fun q:Nat=>⟨99,[(1,.ptr (0,1) 0),(3,I .i64 F.length),(25,.d (.slice (A.map z7m))),(26,I .i64 A.length),(27,I .i64 (q:Nat))],[(1,.box [.d (zio F),.d (.slice (A.map z7m))])],H⟩) (fun q=>q≤A.length∧zez F.length (A.drop q)=zez F.length A) (fun q=>A.length-q) ?_ 0 ⟨zAf _,rfl⟩) rfl rfl
 rintro i ⟨i1,i2⟩ ih
 by_cases hlt:i<A.length
 ·obtain⟨l,hl⟩:∃l,A[i]? =some l:=⟨_,zA0 hlt⟩
  have hlm:=f3 l (zA2 hl)
  rw[drop_cons hl,zez]at i2
  repeat' first|(apply z01;refine z07 (z11 (ys:=A.map z7m) rfl (idx hl)) rfl rfl ?_)|refine z04 ?_|refine fk (fun _=>?_) fun _=>?_
  all_goals try omega
  refine z0f ?_
  refine z00 (z0s (fun q:Nat=>⟨99,[(1,.ptr (0,1) 0),(3,I .i64 F.length),(25,.d (.slice (A.map z7m))),(26,I .i64 A.length),(27,I .i64 (i:Nat)),(5,.d (zde l)),(31,.d (zde l)),(32,I .i64 l.length),(33,I .i64 (q:Nat))],[(1,.box [.d (zio F),.d (.slice (A.map z7m))])],H⟩) (fun q=>q≤l.length∧zme F.length (y50 l q) (l.drop q)=zme F.length none l∧∀y,y50 l q=some y→0≤y.1∧y.1≤y.2.1∧y.2.1≤1114111) (fun q=>l.length-q) ?_ 0 ⟨zAf _,rfl,by intro y hy;cases hy⟩) rfl rfl
  rintro k ⟨k1,k2,k3⟩ ihk
  by_cases hk:k<l.length
  ·obtain⟨x,hx⟩:∃x,l[k]? =some x:=⟨_,zA0 hk⟩
   have hpk:y50 l (k+1)=some x:=by rw[y50,zAy (by omega)];exact hx
   rw[drop_cons hx,ze2]at k2
   by_cases hb:y2z F.length x=true
   ·rw[zAz hb]at k2
    rw[←k2,zAz (by decide)]at i2
    rw[←i2]
    simp only[y2z,zAu,zA3]at hb
    repeat' first|(apply z01;refine z07 (z11 (ys:=l.map z3g) rfl (idx hx)) rfl rfl ?_)|refine z04 ?_|refine fk (fun _=>?_) (fun _=>?_)|(refine z13 (fun hg=>?_) (fun hg=>?_)<;> simp only[hg] <;> (try simp only[zA3,zA5,zA6,zA8]at hg))
    all_goals exact zD110
   ·rw[zAy hb]at k2
    simp only[y2z,zAu,zA3,not_or]at hb
    cases k with
    | zero =>
     rw[show y50 l 0=none from rfl]at k2
     simp only at k2
     have ihk':=ihk 1 ⟨by omega,by rw[hpk];exact k2,fun y hy=>by rw[hpk]at hy;cases hy;omega⟩ (by omega)
     repeat' first|(apply z01;refine z07 (z11 (ys:=l.map z3g) rfl (idx hx)) rfl rfl ?_)|refine z04 ?_|refine fk (fun _=>?_) fun _=>?_
     all_goals try omega
     all_goals exact z00 ihk' rfl rfl
    | succ k =>
     obtain⟨y,hy⟩:∃y,l[k]? =some y:=⟨_,zA0 (by omega)⟩
     have hpy:y50 l (k+1)=some y:=by rw[y50,zAy (by omega)];exact hy
     have hyi:l[(((k+1:Nat):Int)-1).toNat]? =some y:=by rw[show(((k+1:Nat):Int)-1).toNat=k by omega];exact hy
     have hyr:=k3 y hpy
     rw[hpy]at k2
     simp only at k2
     by_cases ho:zwt y x=true
     ·rw[zAz ho]at k2
      rw[←k2,zAz (by decide)]at i2
      rw[←i2]
      simp only[zwt,zAu,zA7,zA3]at ho
      repeat' first|(apply z01;refine z07 (z11 (ys:=l.map z3g) rfl (idx hx)) rfl rfl ?_)|(apply z02;refine z0c (z11 (ys:=l.map z3g) rfl (zam hyi)) rfl rfl ?_)|(apply z19;refine z0c (z16 (zc9 (by omega) (by omega))) rfl rfl ?_)|refine z04 ?_|refine fk (fun _=>?_) (fun _=>?_)|(refine z13 (fun hg=>?_) (fun hg=>?_)<;> simp only[hg] <;> (try simp only[zA3,zA5,zA6,zA8]at hg))
      all_goals exact zD110
     ·rw[zAy ho]at k2
      simp only[zwt,zAu,zA7,zA3,not_or,not_and]at ho
      have ihk':=ihk (k+2) ⟨by omega,by rw[hpk];exact k2,fun y hy=>by rw[hpk]at hy;cases hy;omega⟩ (by omega)
      repeat' first|(apply z01;refine z07 (z11 (ys:=l.map z3g) rfl (idx hx)) rfl rfl ?_)|(apply z02;refine z0c (z11 (ys:=l.map z3g) rfl (zam hyi)) rfl rfl ?_)|(apply z19;refine z0c (z16 (zc9 (by omega) (by omega))) rfl rfl ?_)|refine z04 ?_|refine fk (fun _=>?_) (fun _=>?_)|(refine z13 (fun hg=>?_) (fun hg=>?_)<;> simp only[hg] <;> (try simp only[zA3,zA5,zA6,zA8]at hg))
      all_goals try omega
      all_goals exact z00 ihk' rfl rfl
  ·obtain rfl:k=l.length:=by omega
   rw[zAs,zme]at k2
   rw[←k2,zAy (by decide)]at i2
   repeat' first|refine z04 ?_|refine fk (fun _=>?_) fun _=>?_
   all_goals try omega
   all_goals exact z00 (ih (i+1) ⟨by omega,i2⟩ (by omega)) rfl rfl
 ·obtain rfl:i=A.length:=by omega
  rw[zAs,zez]at i2
  rw[←i2]
  repeat' first|refine z04 ?_|refine fk (fun _=>?_) fun _=>?_
  all_goals exact zD110
def y86(a b:Int):Int:=if a<b then -1 else if b<a then 1 else 0
theorem zgq(a:Int):z0a prog 180 [I .i32 a] (B false):=by
 refine z0q fun H=>?_
 refine z05 func180 (by kernel_rfl) rfl (by simp) ?_
 dsimp only[f180]
 repeat' first|refine z04 ?_|fail
 all_goals try omega
 all_goals exact z03 func180 _ (zut rfl (by simp only[ne_eq,not_true_eq_false,decide_false];rfl)) ⟨rfl,rfl⟩
theorem zsa(a b:Int):z0a prog 146 [I .i32 a,I .i32 b] (I .i64 (y86 a b)):=by
 refine z0q fun H=>?_
 have h1:=zgq a
 have h2:=zgq b
 refine z05 func146 (by kernel_rfl) rfl (by simp) ?_
 dsimp only[f146]
 rw[y86]
 by_cases c1:a<b
 ·rw[zAz c1]
  all_goals exact zD47
 ·rw[zAy c1]
  by_cases c2:b<a
  ·rw[zAz c2]
   all_goals exact zD47
  ·rw[zAy c2]
   all_goals exact zD47
theorem ztx(x:Arc)(c:Int):z0a prog 145 [.d (.agg (z3g x)),I .i32 c] (I .i64 (y86 x.2.1 c)):=by
 refine z0q fun H=>?_
 have h1:=zsa x.2.1 c
 refine z05 func145 (by kernel_rfl) rfl (by simp) ?_
 dsimp only[f145]
 repeat' first|(apply z06;refine z1o h1 ?_)|(apply z1n;refine z09 z3s ?_)|refine z04 ?_|fail
 all_goals try omega
 all_goals exact z03 func145 _ z1h ⟨rfl,rfl⟩
theorem ztg(l:List Arc)(hl:l.length≤4611686018427387904)(ho:okA none l)(c:Int):z0a prog 144 [.d (zde l),I .i32 c,.fn (.func 145) [] []] (.tup [I .i64 (zif c l:Nat),B (match l[zif c l]? with|some x=>decide (x.2.1=c)|none=>false)]):=by
 refine z0q fun H=>?_
 have hmono:=zoi ho
 refine z05 func144 (by kernel_rfl) rfl (by simp) ?_
 dsimp only[f144]
 repeat' first|refine z04 ?_|fail
 all_goals try omega
 refine z0f ?_
 refine z00 (z0s (fun q:Nat × Nat=>⟨49,[(0,.d (zde l)),(1,I .i32 c),(2,.fn (.func 145) [] []),(8,I .i64 l.length),(9,I .i64 (q.1:Nat)),(10,I .i64 (q.2:Nat))],[],H⟩) (fun q=>q.1≤q.2∧q.2≤l.length∧(∀p x,p<q.1→l[p]? =some x→x.2.1<c)∧∀p x,q.2≤p→l[p]? =some x→¬x.2.1<c) (fun q=>q.2-q.1) ?_ (0,l.length) ⟨zAf _,zAj _,fun p x h=>absurd h (Nat.not_lt_zero _),fun p x h1 h2=>by have:=(zA1.1 h2).1;omega⟩) rfl rfl
 rintro⟨i,j⟩ ⟨i1,i2,i3,i4⟩ ih
 simp only at i1 i2 i3 i4 ih⊢
 by_cases hlt:i<j
 ·have hh:((((i:Nat):Int)+((j:Nat):Int)) / 2)=(((i+j) / 2:Nat):Int):=by omega
  obtain⟨x,hx⟩:∃x,l[(i+j) / 2]? =some x:=⟨_,zA0 (by omega)⟩
  have hxi:l[((((i:Nat):Int)+((j:Nat):Int)) / 2).toNat]? =some x:=by rw[hh,zA9];exact hx
  have hc:=ztx x c
  rw[y86]at hc
  by_cases hlo:x.2.1<c
  ·rw[zAz hlo]at hc
   have ih':=ih ((i+j) / 2+1,j) ⟨by simp only;omega,i2,fun p y hp hy=>by have:=hmono p _ y x (by simp only at hp;omega) hy hx;omega,i4⟩ (by simp only;omega)
   rw[show(((i+j) / 2+1:Nat):Int)=(((i:Nat):Int)+((j:Nat):Int)) / 2+1 by omega]at ih'
   all_goals exact zD63
  ·have ih':=ih (i,(i+j) / 2) ⟨by simp only;omega,by simp only;omega,i3,fun p y hp hy=>by have:=hmono _ p x y hp hx hy;omega⟩ (by simp only;omega)
   rw[hh.symm]at ih'
   rw[zAy hlo]at hc
   have hc0:0≤(if c<x.2.1 then(1:Int)else 0):=by split <;> omega
   generalize (if c<x.2.1 then(1:Int)else 0)=cc at *
   all_goals exact zD63
 ·obtain rfl:i=j:=by omega
  have hcut:=y99 (c:=c) i2 i3 fun x hx=>i4 i x (zAj _) hx
  rw[←hcut]
  clear ih
  by_cases hin:i<l.length
  ·obtain⟨x,hx⟩:∃x,l[i]? =some x:=⟨_,zA0 hin⟩
   have hnl:=i4 i x (zAj _) hx
   have hc:=ztx x c
   rw[y86,zAy hnl]at hc
   rw[hx]
   simp only
   by_cases he:c<x.2.1
   ·rw[zAz he]at hc
    rw[show decide (x.2.1=c)=false by simp;omega]
    all_goals exact zD56
   ·rw[zAy he]at hc
    rw[show decide (x.2.1=c)=true by simp;omega]
    all_goals exact zD56
  ·rw[zAv (by omega)]
   repeat' first|refine z04 ?_|refine fk (fun _=>?_) fun _=>?_
   all_goals try omega
   all_goals exact z03 func144 _ z1z ⟨rfl,rfl⟩
theorem y2h(l:List Arc)(hl:l.length≤4611686018427387904)(ho:okA none l)(c:Int):z0a prog 111 [.d (zde l),I .i32 c] (I .i64 (nxt l c)):=by
 refine z0q fun H=>?_
 have hb:=ztg l hl ho c
 have hcl:=zri c l
 rw[zw3 ho]
 refine z05 func111 (by kernel_rfl) rfl (by simp) ?_
 dsimp only[f111]
 by_cases hin:zif c l<l.length
 ·obtain⟨x,hx⟩:∃x,l[zif c l]? =some x:=⟨_,zA0 hin⟩
  rw[hx]at hb⊢
  simp only at hb⊢
  generalize zif c l=i at *
  by_cases hc:c<x.1
  ·rw[zAz hc]
   all_goals exact zD55
  ·rw[zAy hc]
   all_goals exact zD55
 ·rw[zAv (by omega)]at hb⊢
  simp only at hb⊢
  have:zif c l=l.length:=by omega
  rw[this]at hb
  repeat' first|(apply z06;refine zbv (first:=[]) (cap:=[]) (ps:=[.d (zde l),I .i32 c,.fn (.func 145) [] []]) hb rfl rfl (by decide) ?_)|refine z04 ?_|refine fk (fun _=>?_) fun _=>?_
  all_goals try omega
  all_goals exact z03 func111 _ z1h ⟨rfl,rfl⟩
def z7w(op:Int)(p q:Bool):Bool:=if op=1 then p&&q else if op=2 then p||q else if op=3 then p&&!q else p != q
theorem zsm(op:Int)(p q:Bool):z0a prog 106 [I .i64 op,B p,B q] (B (z7w op p q)):=by
 refine z0q fun H=>?_
 refine z05 func106 (by kernel_rfl) rfl (by simp) ?_
 dsimp only[f106]
 rw[z7w]
 by_cases h1:op=1
 ·rw[zAz h1]
  exact zD34
 rw[zAy h1]
 by_cases h2:op=2
 ·rw[zAz h2]
  exact zD34
 rw[zAy h2]
 by_cases h3:op=3
 ·rw[zAz h3]
  exact zD34
 rw[zAy h3]
 exact zD34
def zf9(op:Int)(p q:Int):Bool:=if op=1 then decide (p<0)||decide (q<0)else if op=3 then decide (p<0)else decide (p<0)&&decide (q<0)
theorem zt5(op p q:Int):z0a prog 112 [I .i64 op,.d (.agg [z2i p,z2i q])] (B (zf9 op p q)):=by
 refine z0q fun H=>?_
 refine z05 func112 (by kernel_rfl) rfl (by simp) ?_
 dsimp only[f112]
 rw[zf9]
 by_cases h1:op=1
 ·rw[zAz h1]
  by_cases p0:p<0
  ·rw[zAi p0,Bool.true_or]
   all_goals exact zD23
  ·rw[zAo p0,Bool.false_or]
   all_goals exact zD23
 rw[zAy h1]
 by_cases h3:op=3
 ·rw[zAz h3]
  all_goals exact zD23
 rw[zAy h3]
 by_cases p0:p<0
 ·rw[zAi p0,Bool.true_and]
  all_goals exact zD23
 ·rw[zAo p0,Bool.false_and]
  all_goals exact zD23
theorem zjm(a:Au)(q:Int)(hq:q<a.F.length):z0a prog 107 [.d (auD a),I .i64 q] (B (a.fin q)):=by
 obtain⟨F,A⟩:=a
 refine z0q fun H=>?_
 refine z05 func107 (by kernel_rfl) rfl (by simp) ?_
 dsimp only[f107]
 rw[Au.fin]
 by_cases hn:q<0
 ·rw[zAz hn]
  repeat' first|(apply z1n;refine z09 z3s ?_)|refine z04 ?_|refine fk (fun _=>?_) fun _=>?_
  all_goals try omega
  all_goals exact z03 func107 _ z1h ⟨rfl,rfl⟩
 ·rw[zAy hn]
  obtain⟨k,rfl⟩:∃k:Nat,q=k:=⟨q.toNat,by omega⟩
  simp only at hq
  obtain⟨b,hb⟩:∃b,F[k]? =some b:=⟨_,zA0 (by omega)⟩
  simp only[zA9,List.getD,hb,Option.getD_some]
  repeat' first|(apply z01;refine z07 (z11 (ys:=F.map fun b=>[zdm b]) rfl (idx (g:=fun b=>[zdm b]) hb)) rfl rfl ?_)|(apply z1n;refine z09 z3s ?_)|refine z04 ?_|fail
  all_goals try omega
  all_goals exact z03 func107 _ z1h ⟨rfl,rfl⟩
theorem zo9(a:Au)(q:Int)(hq:q<a.A.length):z0a prog 109 [.d (auD a),I .i64 q] (.d (zde (a.arcs q))):=by
 obtain⟨F,A⟩:=a
 refine z0q fun H=>?_
 refine z05 func109 (by kernel_rfl) rfl (by simp) ?_
 dsimp only[f109]
 rw[Au.arcs]
 by_cases hn:q<0
 ·rw[zAz hn]
  repeat' first|(apply z1n;refine z09 z3s ?_)|refine z04 ?_|refine fk (fun _=>?_) fun _=>?_
  all_goals try omega
  refine zw4 4 rfl ?_
  all_goals exact z03 func109 _ z1h ⟨rfl,rfl⟩
 ·rw[zAy hn]
  obtain⟨k,rfl⟩:∃k:Nat,q=k:=⟨q.toNat,by omega⟩
  simp only at hq
  obtain⟨l,hb⟩:∃l,A[k]? =some l:=⟨_,zA0 (by omega)⟩
  simp only[zA9,List.getD,hb,Option.getD_some]
  repeat' first|(apply z01;refine z07 (z11 (ys:=A.map z7m) rfl (idx hb)) rfl rfl ?_)|(apply z1n;refine z09 z3s ?_)|refine z04 ?_|fail
  all_goals try omega
  all_goals exact z03 func109 _ z1h ⟨rfl,rfl⟩
def z5f(l:List Arc):List Rx.Rg:=l.map fun x=>(x.1,x.2.1)
theorem zfm(l:List Arc)(hl:l.length≤2000000):z0a prog 110 [.d (zde l)] (.d (rgs (z5f l))):=by
 refine z0q fun H=>?_
 refine z05 func110 (by kernel_rfl) rfl (by simp) ?_
 dsimp only[f110]
 repeat' first|refine z04 ?_|fail
 all_goals try omega
 refine z1j 3 1000 47 2 rfl rfl rfl ?_
 refine z0f ?_
 refine z00 (z0s (fun q:Nat=>⟨22,[(3,.ref (0,1000)),(6,.d (zde l)),(7,I .i64 l.length),(8,I .i64 (q:Nat))],[(1000,.row 47 2 (((z5f l).take q).map rgc))],H⟩) (fun q=>q≤l.length) (fun q=>l.length-q) ?_ 0 (zAf _)) rfl rfl
 rintro i i1 ih
 by_cases hlt:i<l.length
 ·obtain⟨x,hx⟩:∃x,l[i]? =some x:=⟨_,zA0 hlt⟩
  have hr:(z5f l)[i]? =some (x.1,x.2.1):=by rw[z5f,zAd,hx];rfl
  have ih':=ih (i+1) (by omega) (by omega)
  rw[z5i hr]at ih'
  have htl:((z5f l).take i).length≤2000000:=by rw[zAm];omega
  generalize (z5f l).take i=Q at *
  repeat' first|(apply z01;refine z07 (z11 (ys:=l.map z3g) rfl (idx hx)) rfl rfl ?_)|(apply z14;refine z2w (g:=rgc) (x.1,x.2.1) rfl ?_)|refine z04 ?_|refine fk (fun _=>?_) fun _=>?_
  all_goals try omega
  all_goals refine z1d 19 1000 ?_
  all_goals exact z00 ih' rfl rfl
 ·obtain rfl:i=l.length:=by omega
  rw[show l.length=(z5f l).length by rw[z5f,zA4],List.take_length]at *
  repeat' first|refine z04 ?_|refine fk (fun _=>?_) fun _=>?_
  all_goals try omega
  all_goals refine z0o 1000 rfl ?_
  all_goals exact z03 func110 _ z1h ⟨rfl,rfl⟩
abbrev ints(l:List Int):D:=.slice (l.map fun x=>[z2i x])
theorem zkl(l:List Arc)(cl:List Int)(hl:l.length≤2000000)(hr:∀x∈l,0≤x.1∧x.1≤x.2.1∧x.2.1≤1114111∧0≤x.2.2∧x.2.2<cl.length):z0a prog 117 [.d (zde l),.d (ints cl)] (.d (zde (byC cl l))):=by
 refine z0q fun H=>?_
 refine z05 func117 (by kernel_rfl) rfl (by simp) ?_
 dsimp only[f117]
 repeat' first|refine z04 ?_|fail
 all_goals try omega
 refine z1j 5 1000 224 3 rfl rfl rfl ?_
 refine z0f ?_
 refine z00 (z0s (fun q:Nat × List Arc=>⟨67,[(1,.d (ints cl)),(5,.ref (0,1000)),(10,.d (zde l)),(11,I .i64 l.length),(12,I .i64 (q.1:Nat))],[(1000,.row 224 3 (q.2.map z3g))],H⟩) (fun q=>q.1≤l.length∧q.2.length≤q.1∧(∀y∈q.2,0≤y.2.1∧y.2.1≤1114111)∧(l.drop q.1).foldl (zbe cl) q.2=byC cl l) (fun q=>l.length-q.1) ?_ (0,[]) ⟨zAf _,zAj _,by simp,rfl⟩) rfl rfl
 rintro⟨i,out⟩ ⟨i1,i2,i3,i4⟩ ih
 simp only at i1 i2 i3 i4 ih⊢
 by_cases hlt:i<l.length
 ·obtain⟨x,hx⟩:∃x,l[i]? =some x:=⟨_,zA0 hlt⟩
  obtain⟨r1,r2,r3,r4,r5⟩:=hr x (zA2 hx)
  obtain⟨k,hk⟩:∃k,cl[x.2.2.toNat]? =some k:=⟨_,zA0 (by omega)⟩
  have hck:clA cl x.2.2=k:=by rw[clA,zAy (by omega),List.getD,hk];rfl
  rw[drop_cons hx,List.foldl_cons,zbe,hck]at i4
  by_cases hneg:k<0
  ·rw[zAz hneg]at i4
   have ih':=ih (i+1,out) ⟨by simp only;omega,by simp only;omega,i3,i4⟩ (by simp only;omega)
   repeat' first|(apply z01;first|refine z07 (z11 (ys:=l.map z3g) rfl (idx hx)) rfl rfl ?_| refine z07 (z11 (ys:=cl.map fun x=>[z2i x]) rfl (zam (g:=fun x=>[z2i x]) hk)) rfl rfl ?_)|refine z04 ?_|refine fk (fun _=>?_) (fun _=>?_)|(refine z13 (fun hg=>?_) (fun hg=>?_)<;> simp only[hg] <;> (try simp only[zA3,zA5,zA6,zA8]at hg))
   all_goals exact zD8
  ·rw[zAy hneg]at i4
   have hln:=ze4 out x.1 x.2.1 k
   have ih':=ih (i+1,ext out x.1 x.2.1 k) ⟨by simp only;omega,by simp only;omega,fun y hy=>by
    rcases ext_mem hy with h|h
    ·omega
    ·exact i3 y h,i4⟩ (by simp only;omega)
   clear ih hln
   rcases zqy out with rfl|⟨m,y,rfl⟩
   ·rw[ext_nil]at ih'
    simp only at ih'
    repeat' first|(apply z01;first|refine z07 (z11 (ys:=l.map z3g) rfl (idx hx)) rfl rfl ?_| refine z07 (z11 (ys:=cl.map fun x=>[z2i x]) rfl (zam (g:=fun x=>[z2i x]) hk)) rfl rfl ?_)|(apply z14;first|refine z07 (z4e rfl) rfl rfl ?_| refine z4x (g:=z3g) rfl rfl (x.1,x.2.1,k) rfl rfl rfl rfl rfl rfl rfl (by decide) (by simp) ?_)|refine z04 ?_|refine fk (fun _=>?_) fun _=>?_
    all_goals try (exfalso;first|omega|(simp at *;done))
    all_goals refine z1d 64 1000 ?_
    all_goals exact z00 ih' rfl rfl
   ·have hy:=i3 y (by simp)
    have hln:((m++[y]).map z3g).length=m.length+1:=by simp
    have hln2:(m++[y]).length=m.length+1:=by simp
    have hix:(m++[y])[((((((m++[y]).map z3g).length:Nat):Int)-1)).toNat]? =some y:=by
     rw[hln,show(((m.length+1:Nat):Int)-1).toNat=m.length by omega];simp
    have hse:(m++[y]).set ((((((m++[y]).map z3g).length:Nat):Int)-1)).toNat ((y.1,x.2.1,y.2.2):Arc)=m++[(y.1,x.2.1,y.2.2)]:=by
     rw[hln,show(((m.length+1:Nat):Int)-1).toNat=m.length by omega];simp
    rw[z47]at ih'
    by_cases hj:y.2.1+1=x.1∧y.2.2=k
    ·rw[zAz hj,←hj.2]at ih'
     simp only at ih'
     repeat' first|(apply z0b;first|refine z0c (z0e (u:=z1b y.2.1) hix) rfl rfl ?_| refine z0c (z0e (u:=z2i y.2.2) hix) rfl rfl ?_)|(apply z01;first|refine z07 (z11 (ys:=l.map z3g) rfl (idx hx)) rfl rfl ?_| refine z07 (z11 (ys:=cl.map fun x=>[z2i x]) rfl (zam (g:=fun x=>[z2i x]) hk)) rfl rfl ?_| refine z07 (z3d rfl) rfl rfl ?_)|(apply z02;refine z0c (z3d rfl) rfl rfl ?_)|(apply z19;refine z0c (z16 (zc9 (by omega) (by omega))) rfl rfl ?_)|(apply z14;first|refine z07 (z4e rfl) rfl rfl ?_| refine z2w (g:=z3g) (x.1,x.2.1,k) rfl ?_)|(apply z0x;refine z3w ((y.1,x.2.1,y.2.2):Arc) hix hse ?_)|refine z04 ?_|refine fk (fun _=>?_) (fun _=>?_)|(refine z13 (fun hg=>?_) (fun hg=>?_)<;> simp only[hg] <;> (try simp only[zA3,zA5,zA6,zA8]at hg))
     all_goals exact zD8
    ·rw[zAy hj]at ih'
     simp only at ih'
     repeat' first|(apply z0b;first|refine z0c (z0e (u:=z1b y.2.1) hix) rfl rfl ?_| refine z0c (z0e (u:=z2i y.2.2) hix) rfl rfl ?_)|(apply z01;first|refine z07 (z11 (ys:=l.map z3g) rfl (idx hx)) rfl rfl ?_| refine z07 (z11 (ys:=cl.map fun x=>[z2i x]) rfl (zam (g:=fun x=>[z2i x]) hk)) rfl rfl ?_| refine z07 (z3d rfl) rfl rfl ?_)|(apply z02;refine z0c (z3d rfl) rfl rfl ?_)|(apply z19;refine z0c (z16 (zc9 (by omega) (by omega))) rfl rfl ?_)|(apply z14;first|refine z07 (z4e rfl) rfl rfl ?_| refine z2w (g:=z3g) (x.1,x.2.1,k) rfl ?_)|(apply z0x;refine z3w ((y.1,x.2.1,y.2.2):Arc) hix hse ?_)|refine z04 ?_|refine fk (fun _=>?_) (fun _=>?_)|(refine z13 (fun hg=>?_) (fun hg=>?_)<;> simp only[hg] <;> (try simp only[zA3,zA5,zA6,zA8]at hg))
     all_goals try omega
     all_goals refine z1d 64 1000 ?_
     all_goals exact z00 ih' rfl rfl
 ·obtain rfl:i=l.length:=by omega
  rw[zAs,List.foldl_nil]at i4
  rw[←i4]
  repeat' first|refine z04 ?_|refine fk (fun _=>?_) fun _=>?_
  all_goals try omega
  all_goals refine z0o 1000 rfl ?_
  all_goals exact z03 func117 _ z1h ⟨rfl,rfl⟩
open Go.Ab Go.Ax Go.Rx
theorem zlu(l:List Rg)(hl:l.length≤9223372036854775807)(c:Int):z0a prog 57 [.d (rgs l),I .i32 c] (B (inB l c)):=by
 refine z0q fun H=>?_
 refine z05 func57 (by kernel_rfl) rfl (by simp) ?_
 dsimp only[f57]
 repeat' first|refine z04 ?_|fail
 all_goals try omega
 refine z0f ?_
 refine z00 (z0s (fun q:Nat=>⟨24,[(1,I .i32 c),(7,.d (rgs l)),(8,I .i64 l.length),(9,I .i64 (q:Nat))],[],H⟩) (fun q=>q≤l.length∧inB (l.drop q) c=inB l c) (fun q=>l.length-q) ?_ 0 ⟨zAf _,rfl⟩) rfl rfl
 intro q ⟨i1,i2⟩ ih
 by_cases hlt:q<l.length
 ·obtain⟨r,hr⟩:∃r,l[q]? =some r:=⟨_,zA0 hlt⟩
  rw[drop_cons hr,inB,List.any_cons,←inB]at i2
  by_cases hc:r.1≤c∧c≤r.2
  ·rw[zAi hc.1,zAi hc.2,Bool.true_and,Bool.true_or]at i2
   rw[←i2]
   repeat' first|(apply z01;refine z07 (z11 (ys:=l.map rgc) rfl (idx hr)) rfl rfl ?_)|refine z04 ?_|refine fk (fun _=>?_) fun _=>?_
   all_goals try omega
   all_goals exact z03 func57 _ z1h ⟨rfl,rfl⟩
  ·exact zD46
 ·obtain rfl:q=l.length:=by omega
  rw[zAs,inB,List.any_nil]at i2
  rw[←i2]
  repeat' first|refine z04 ?_|refine fk (fun _=>?_) fun _=>?_
  all_goals try omega
  all_goals exact z03 func57 _ z1h ⟨rfl,rfl⟩
end Go.Proofs.YtmcggompdmngmaaGreatDoor
