/- A part. -/
import Derived.Test.YtmcggompdmngmaaGreatDoorXz
import Derived.Test.YtmcggompdmngmaaGreatDoorXq
import Derived.Test.YtmcggompdmngmaaGreatDoorXr
set_option linter.all false
open Go.Proofs.Tryz
namespace Go.Proofs.YtmcggompdmngmaaGreatDoor
open Go.Ab Go.Rx
set_option maxHeartbeats 20000000
set_option maxRecDepth 100000
attribute [local irreducible] Run Ops Op1 z0y Val Tr z0a z0u NF Rel z27 z29 z5w
abbrev Uq:=Int × Int × Int × Bool
abbrev uqc(u:Uq):List D:=[z1b u.1,z2i u.2.1,z2i u.2.2.1,zdm u.2.2.2]
def uQ:Nat→List U→List Uq
 | _,[]=>[]
 | i,u::l=>(u.r,(i:Int),(u.n:Int),false)::uQ (i+u.n) l
def okf(u:Uq):Uq:=(u.1,u.2.1,u.2.2.1,!decide (u.1=65533)||decide (u.2.2.1=3))
theorem y31:∀(l:List U) (i:Nat),((uQ i l).map okf).all (fun u=>u.2.2.2)=l.all zuk
 | [],i=>rfl
 | u::l,i=>by
  rw[uQ,List.map_cons,List.all_cons,List.all_cons,y31 l]
  congr 1
  simp only[okf,zuk]
  congr 1
  rw[decide_eq_decide];omega
theorem zvo:∀(l:List U) (i:Nat),(uQ i l).length=l.length
 | [],i=>rfl
 | u::l,i=>by rw[uQ,zAk,zAk,zvo l]
def inv1(s:ByteArray)(q:Nat)(l:List Uq):Prop:=(l=[]∧q=0)∨(∃P r a,l=P++[(r,a,0,false)]∧0≤a∧a≤(q:Int)∧P.length<q∧P++(r,a,(q:Int)-a,false)::uQ q (rst s q)=uQ 0 (rst s 0))
theorem y3m(s:ByteArray)(hs:s.size≤1000000):z0a prog 49 [S s] (.d (.slice (((uQ 0 (rst s 0)).map okf).map uqc))):=by
 refine z0q fun H=>?_
 refine z05 func49 (by kernel_rfl) rfl (by simp) ?_
 dsimp only[f49]
 repeat' first|refine z04 ?_|(apply z0r;refine z95 rfl rfl rfl (by decide) ?_)
 all_goals try omega
 refine z1j 3 1000 103 4 rfl rfl rfl ?_
 refine z0f ?_
 refine z00 (z0s (fun q:Nat × List Uq=>⟨81,[(0,S s),(3,.ref (0,1000)),(8,.ptr (0,8) 0)],[(8,.siter s q.1),(1000,.row 103 4 (q.2.map uqc))],H⟩) (fun q=>q.1≤s.size∧inv1 s q.1 q.2) (fun q=>s.size-q.1) ?_ (0,[]) ⟨zAf _,.inl ⟨rfl,rfl⟩⟩) rfl rfl
 rintro⟨q,l⟩ ⟨i1,i2⟩ ih
 simp only at i1 i2 ih⊢
 by_cases hlt:q<s.size
 ·have hd:=z5y hlt
  have hw:=z8r s q hlt
  have hdh:=zg7 s q
  rcases i2 with⟨rfl,rfl⟩|⟨P,r,a,rfl,a0,a1,hpl,heq⟩
  ·have ih':=ih (0+(Utf8.decode s 0).2,([((((Utf8.decode s 0).1:Nat):Int),((0:Nat):Int),(0:Int),false)]:List Uq)) ⟨by simp only;omega,.inr ⟨[],_,_,rfl,by simp,by simp only;omega,by simp only[List.length_nil];omega,by
    simp only
    rw[hd,uQ,List.nil_append]
    congr 2
    simp⟩⟩ (by simp only;omega)
   repeat' first|(apply z14;first|refine z4x (g:=uqc) rfl rfl (((((Utf8.decode s 0).1:Nat):Int),((0:Nat):Int),(0:Int),false):Uq) rfl rfl rfl rfl rfl rfl rfl (by decide) (by simp) ?_|refine z07 (z4e rfl) rfl rfl ?_)|refine z04 ?_|(apply z0r;refine z1r hlt rfl rfl (by decide) ?_)
   all_goals try (exfalso;simp at *;done)
   all_goals refine z1d 36 1000 ?_
   all_goals exact z00 ih' rfl rfl
  ·have hix:(P++[(r,a,(0:Int),false)])[((((((P++[(r,a,(0:Int),false)]).map uqc).length:Nat):Int)-1)).toNat]? =some ((r,a,0,false):Uq):=by
    exact zD62
   have hse:(P++[(r,a,(0:Int),false)]).set ((((((P++[(r,a,(0:Int),false)]).map uqc).length:Nat):Int)-1)).toNat ((r,a,(q:Int)-a,false):Uq)=P++[(r,a,(q:Int)-a,false)]:=by
    exact zD62
   have hln:((P++[(r,a,(0:Int),false)]).map uqc).length=P.length+1:=by simp
   have hln2:(P++[(r,a,(q:Int)-a,false)]).length=P.length+1:=by simp
   have ih':=ih (q+(Utf8.decode s q).2,(P++[(r,a,(q:Int)-a,false)])++([((((Utf8.decode s q).1:Nat):Int),((q:Nat):Int),(0:Int),false)]:List Uq)) ⟨by simp only;omega,.inr ⟨P++[(r,a,(q:Int)-a,false)],_,_,rfl,by simp,by simp only;omega,by simp only[zAa,zAn];omega,by
    simp only
    rw[hd,uQ]at heq
    rw[←heq,zAl,List.singleton_append,show(((q+(Utf8.decode s q).2:Nat):Int)-(q:Nat))=((Utf8.decode s q).2:Nat) by omega]⟩⟩ (by simp only;omega)
   repeat' first|(apply z1f;refine z07 (z0e (u:=z2i a) hix) rfl rfl ?_)|(apply z01;refine z07 (z3d rfl) rfl rfl ?_)|(apply z14;first|refine z2w (g:=uqc) (((((Utf8.decode s q).1:Nat):Int),((q:Nat):Int),(0:Int),false):Uq) rfl ?_| refine z07 (z4e rfl) rfl rfl ?_)|(apply z0x;refine z3w ((r,a,(q:Int)-a,false):Uq) hix hse ?_)|refine z04 ?_|refine fk (fun _=>?_) (fun _=>?_)|(apply z0r;refine z1r hlt rfl rfl (by decide) ?_)
   all_goals try omega
   all_goals refine z1d 36 1000 ?_
   all_goals exact z00 ih' rfl rfl
 ·obtain rfl:q=s.size:=by omega
  have hd:=z3i (s:=s) (i:=s.size) (zAj _)
  obtain⟨L,hL⟩:∃L,uQ 0 (rst s 0)=L:=⟨_,rfl⟩
  have hLl:L.length≤s.size:=by
   rw[←hL,zvo]
   have:=zhm s s.size 0 (by omega)
   omega
  rw[hL]
  rcases i2 with⟨rfl,h0⟩|⟨P,r,a,rfl,a0,a1,hpl,heq⟩
  ·have hLn:L=[]:=by rw[←hL,z3i (by omega)];rfl
   repeat' first|(apply z14;refine z07 (z4e rfl) rfl rfl ?_)|refine z04 ?_|(apply z0r;refine z2l hlt rfl rfl (by decide) ?_)
   all_goals try (exfalso;simp at *;done)
   refine z0f ?_
   refine z00 (z0s (fun k:Nat=>⟨81,[(3,.ref (0,1000)),(57,I .i64 L.length),(58,I .i64 (k:Nat))],[(1000,.row 103 4 (((L.take k).map okf++L.drop k).map uqc))],H⟩) (fun k=>k≤L.length) (fun k=>L.length-k) ?_ 0 (zAf _)) (by rw[hLn];rfl) (by rw[hLn];rfl)
   exact zD6
  ·rw[hd,uQ,hL]at heq
   have hix:(P++[(r,a,(0:Int),false)])[((((((P++[(r,a,(0:Int),false)]).map uqc).length:Nat):Int)-1)).toNat]? =some ((r,a,0,false):Uq):=by
    exact zD62
   have hse:(P++[(r,a,(0:Int),false)]).set ((((((P++[(r,a,(0:Int),false)]).map uqc).length:Nat):Int)-1)).toNat ((r,a,(s.size:Int)-a,false):Uq)=P++[(r,a,(s.size:Int)-a,false)]:=by
    exact zD62
   rw[heq]at hse
   have hln:((P++[(r,a,(0:Int),false)]).map uqc).length=P.length+1:=by simp
   repeat' first|(apply z1f;refine z07 (z0e (u:=z2i a) hix) rfl rfl ?_)|(apply z01;refine z07 (z3d rfl) rfl rfl ?_)|(apply z14;refine z07 (z4e rfl) rfl rfl ?_)|(apply z0x;refine z3w ((r,a,(s.size:Int)-a,false):Uq) hix hse ?_)|refine z04 ?_|refine fk (fun _=>?_) (fun _=>?_)|(apply z0r;refine z2l hlt rfl rfl (by decide) ?_)
   all_goals try omega
   refine z0f ?_
   refine z00 (z0s (fun k:Nat=>⟨81,[(3,.ref (0,1000)),(57,I .i64 L.length),(58,I .i64 (k:Nat))],[(1000,.row 103 4 (((L.take k).map okf++L.drop k).map uqc))],H⟩) (fun k=>k≤L.length) (fun k=>L.length-k) ?_ 0 (zAf _)) (by rw[show(L.length:Int)=(((L.map uqc).length:Nat):Int) by rw[zA4]];rfl) rfl
   exact zD6
theorem zyw(s:ByteArray)(hs:s.size≤1000000):z0a prog 80 [S s] (B (zcs s)):=by
 refine z0q fun H=>?_
 have hu:=y3m s hs
 have hall:=y31 (rst s 0) 0
 change _=zcs s at hall
 have hlen:((uQ 0 (rst s 0)).map okf).length≤s.size:=by
  rw[zA4,zvo]
  have:=zhm s s.size 0 (by omega)
  omega
 generalize (uQ 0 (rst s 0)).map okf=L at *
 rw[←hall]
 refine z05 func80 (by kernel_rfl) rfl (by simp) ?_
 dsimp only[f80]
 repeat' first|(apply z06;refine z1o hu ?_)|refine z04 ?_|fail
 all_goals try omega
 refine z0f ?_
 refine z00 (z0s (fun q:Nat=>⟨16,[(6,.d (.slice (L.map uqc))),(7,I .i64 L.length),(8,I .i64 (q:Nat))],[],H⟩) (fun q=>q≤L.length∧(L.drop q).all (fun u=>u.2.2.2)=L.all fun u=>u.2.2.2) (fun q=>L.length-q) ?_ 0 ⟨zAf _,rfl⟩) rfl rfl
 rintro i ⟨i1,i2⟩ ihl
 by_cases hlt:i<L.length
 ·obtain⟨u,hui⟩:∃u,L[i]? =some u:=⟨_,zA0 hlt⟩
  rw[drop_cons hui,List.all_cons]at i2
  have hx:(L.map uqc)[((i:Nat):Int).toNat]? =some (uqc u):=by simp[hui]
  obtain⟨u1,u2,u3,u4⟩:=u
  simp only at i2
  cases u4 with
  | true =>
   rw[Bool.true_and]at i2
   repeat' first|(apply z01;refine z07 (z11 (ys:=L.map uqc) rfl hx) rfl rfl ?_)|refine z04 ?_|refine fk (fun _=>?_) fun _=>?_
   all_goals try omega
   all_goals exact z00 (ihl (i+1) ⟨by omega,i2⟩ (by omega)) rfl rfl
  | false =>
   rw[Bool.false_and]at i2
   rw[←i2]
   repeat' first|(apply z01;refine z07 (z11 (ys:=L.map uqc) rfl hx) rfl rfl ?_)|refine z04 ?_|refine fk (fun _=>?_) fun _=>?_
   all_goals try omega
   all_goals exact z03 func80 _ z1h ⟨rfl,rfl⟩
 ·obtain rfl:i=L.length:=by omega
  rw[zAs]at i2
  rw[←i2]
  repeat' first|refine z04 ?_|refine fk (fun _=>?_) fun _=>?_
  all_goals try omega
  all_goals exact z03 func80 _ z1h ⟨rfl,rfl⟩
mutual
theorem zmw:∀e:Rx,fit e→y70 (fun l=>l.length≤9223372036854775807) e
 | .mk op mn mx rs ks,h=>by rw[fit]at h;rw[y70];exact⟨h.1,zke ks h.2.2⟩
theorem zke:∀ks:List Rx,y2t ks→zkg (fun l=>l.length≤9223372036854775807) ks
 | [],_=>by rw[zkg];trivial
 | k::ks,h=>by rw[y2t]at h;rw[zkg];exact⟨zmw k h.1,zke ks h.2⟩
end
theorem zuj(l:List Rg)(c:Int):inB l c=inR l c:=rfl
abbrev zkt(x:Int):List D:=[z1b x]
theorem y1r:∀(l:List U) (i:Nat),(unF i l).all okU=l.all zuk
 | [],i=>rfl
 | u::l,i=>by
  rw[unF,List.all_cons,List.all_cons,y1r l]
  congr 1
  simp only[okU,zuk]
  congr 1
  rw[decide_eq_decide];omega
theorem zvs(S:Nat):∀(l:List Nat) (i acc:Nat),acc<2 ^ 64→(∀x∈l,x<2 ^ 64)→nxF S i acc l<2 ^ 64
 | [],i,acc,h,_=>h
 | x::l,i,acc,h,hl=>by
  rw[nxF]
  refine zvs S l _ _ ?_ fun y hy=>hl y (by simp[hy])
  split
  ·exact Nat.or_lt_two_pow h (hl x (by simp))
  ·exact h
theorem zs1{e:Rx}(h:val e=0):Rx.pn e≤64:=by
 rw[val]at h
 split at h
 ·simp at h
 split at h
 ·simp at h
 split at h
 ·simp at h
 ·omega
theorem y69(g:FuncId)(vs:Int→List Int)(hvs:∀c:Int,Utf8.valid c=true→z0a prog g [I .i32 c] (.d (.slice ((vs c).map zkt))))(hvl:∀c,(vs c).length≤3)(e:Rx)(hf:fit e)(s:ByteArray)(hs:s.size≤1000000) :
 z0a prog 63 [.d (Drx e),S s,.fn (.func g) [] []] (B (mtS vs e s)):=by
 refine z0q fun H=>?_
 have hval:=z8l e hf
 have hvd:=ztk s hs
 rw[y1r]at hvd
 change z0a prog 82 [S s] (B (zcs s))at hvd
 have hmt:mtS vs e s=(decide (val e=0)&&zcs s&&Rx.mt (okV vs) e (z30 s)):=rfl
 obtain⟨res,hres⟩:∃b,mtS vs e s=b:=⟨_,rfl⟩
 rw[hres]at hmt⊢
 by_cases h0:val e=0
 ·cases h1:zcs s with
  | false =>
   rw[h1,Bool.and_false,Bool.false_and]at hmt
   rw[h1]at hvd
   rw[h0]at hval
   subst hmt
   obtain⟨op,mn,mx,rs,ks⟩:=e
   rw[z4g]at hval⊢
   refine z05 func63 (by kernel_rfl) rfl (by simp) ?_
   dsimp only[f63]
   repeat' first|(apply z06;first|refine z1o hval ?_| refine z1o hvd ?_)|refine z04 ?_|fail
   all_goals exact zD87
  | true =>
   rw[h1,h0,zAi rfl,Bool.true_and,Bool.true_and]at hmt
   rw[h1]at hvd
   have hvn:=zmt h0
   have hpn:=zs1 h0
   have hof:=ye8 e hvn hf hpn
   have hbl:=(y11 hvn).bl tb0 rfl
   have hfw:=(y11 hvn).few tb0 rfl
   have hlv:=y7v.1 e (zmw e hf) tb0 (by simp)
   rw[h0]at hval
   dsimp only[ofB]at hof
   rw[Rx.mt]at hmt
   change res=mtF (okV vs) (bd e tb0).1 (bd e tb0).2 (z30 s)at hmt
   generalize hB:bd e tb0=r1 at *
   obtain⟨t1,p⟩:=r1
   have hfw2:(t1.lv.length:Int)≤Rx.pn e:=by simpa using hfw
   obtain⟨s2,pf,pl⟩:=hbl.sm ⟨rfl,by simp⟩ (by show t1.lv.length≤64;omega)
   obtain⟨lv,fo⟩:=t1
   have hl64:lv.length≤64:=by
    have:lv.length=(⟨lv,fo⟩:Tb).lv.length:=rfl
    omega
   have hfo:fo.length=lv.length:=s2.len
   have hfx:∀x∈fo,x<2 ^ 64:=s2.sm
   simp only at hlv pf pl hmt hof
   obtain⟨op,mn,mx,rs,ks⟩:=e
   rw[z4g]at hval hof⊢
   refine z05 func63 (by kernel_rfl) rfl (by simp) ?_
   dsimp only[f63]
   repeat' (first | (apply z06; (first | refine z1o hval ?_| refine z1o hvd ?_| (refine zbc rfl (hof _) (by decide) rfl (fun r H' h => ⟨_, h.1, h.2, rfl, rfl, ?_⟩)) /- z65 -/)) | refine z04 ?_ | (apply z0r; (refine z95 rfl rfl rfl (by decide) ?_)))
   all_goals try omega
   refine z0f ?_
   refine z00 (z0s (fun q:Nat × Nat × Bool=>⟨88,[(2,.fn (.func g) [] []),(7,.ptr (0,26) 0),(8,I .u64 (q.2.1:Nat)),(9,B q.2.2),(28,.ptr (0,28) 0)],[(26,tbx lv p.f p.l fo p.nu),(28,.siter s q.1)],H⟩)
    (fun q=>q.1≤s.size∧q.2.1<2 ^ 64∧((q.2.2=true∧q.1=0∧q.2.1=0)∨(q.2.2=false∧y6z (okV vs) ⟨lv,fo⟩ p.l q.2.1 ((rst s q.1).map (·.r))=res))) (fun q=>s.size-q.1) ?_ (0,0,true) ⟨zAf _,by decide,.inl ⟨rfl,rfl,rfl⟩⟩) rfl rfl
   rintro⟨q,S,beg⟩ ⟨i1,i2,i3⟩ ih
   simp only at i1 i2 i3 ih⊢
   by_cases hlt:q<s.size
   ·have hd:=z5y hlt
    have hw:=z8r s q hlt
    have hcv:=ze1 s q hlt
    have hvc:=hvs _ hcv
    have hvl2:=hvl ((Utf8.decode s q).1:Nat)
    have hnx:=zpk (X:=26) lv p.f p.l fo p.nu S i2 (by omega) hfx beg 0
    obtain⟨N,hN⟩:∃N,(if beg=true then p.f else nxF S 0 0 fo)=N:=⟨_,rfl⟩
    have hNl:N<2 ^ 64:=by
     rw[←hN]
     split
     ·exact pf
     ·exact zvs S fo 0 0 (by decide) hfx
    rw[hN]at hnx
    obtain⟨c,hc⟩:∃c,((Utf8.decode s q).1:Int)=c:=⟨_,rfl⟩
    obtain⟨vl,hvle⟩:∃vl,vs ((Utf8.decode s q).1:Nat)=vl:=⟨_,rfl⟩
    rw[hvle]at hvc hvl2
    obtain⟨S',hS'⟩:∃S',rdF (okV vs) c N 0 0 lv=S':=⟨_,rfl⟩
    have key:(S'=0→res=false)∧(S'≠0→y6z (okV vs) ⟨lv,fo⟩ p.l S' ((rst s (q+(Utf8.decode s q).2)).map (·.r))=res):=by
     rcases i3 with⟨rfl,rfl,rfl⟩|⟨rfl,i3⟩
     ·rw[zAz rfl]at hN
      subst hN
      rw[z30,hd,List.map_cons,mtF]at hmt
      simp only[hc,hS']at hmt
      constructor
      ·intro h;rw[hmt,zAz h]
      ·intro h;rw[hmt,zAy h]
     ·rw[zAy (by decide)]at hN
      rw[hd,List.map_cons,y6z]at i3
      simp only[hc,hN,hS']at i3
      constructor
      ·intro h;rw[←i3,zAz h]
      ·intro h;rw[zAy h]at i3;exact i3
    have hS'l:S'<2 ^ 64:=by rw[←hS'];exact zrg _ _ _ hl64 (by decide)
    have hrv:=y7f vs c N lv
    rw[hS',←hc,hvle]at hrv
    have hdl:∀v:Int,∀l:List Rg,l.length≤9223372036854775807→z0a prog 97 [.d (rgs l),I .i32 v] (B (inB l v)):=fun v l h=>zqm l h v
    repeat' (first | (apply z06; (first | refine z6s hnx ?_| (refine y3f [] [] [I .i32 ((Utf8.decode s q).1 : Int)] (hvc.at _) rfl rfl (by decide) ?_) /- z65 -/)) | refine z04 ?_ | (apply z0r; (refine z1r hlt rfl rfl (by decide) ?_)))
    all_goals try omega
    refine z0f ?_
    refine z00 (z0s (fun j:Nat × Nat=>⟨88,[(2,.fn (.func g) [] []),(7,.ptr (0,26) 0),(8,I .u64 (j.2:Nat)),(9,B false),(12,I .u64 (N:Nat)),(28,.ptr (0,28) 0),(38,.d (.slice (vl.map zkt))),(39,I .i64 vl.length),(40,I .i64 (j.1:Nat))],[(26,tbx lv p.f p.l fo p.nu),(28,.siter s (q+(Utf8.decode s q).2))],H⟩)
     (fun j=>j.1≤vl.length∧j.2<2 ^ 64∧rdV N lv (vl.drop j.1) j.2=S') (fun j=>vl.length-j.1) ?_ (0,0) ⟨zAf _,by decide,hrv⟩) rfl rfl
    rintro⟨j,A⟩ ⟨m1,m2,m3⟩ ihm
    simp only at m1 m2 m3 ihm⊢
    by_cases hj:j<vl.length
    ·obtain⟨v,hv⟩:∃v,vl[j]? =some v:=⟨_,zA0 hj⟩
     rw[drop_cons hv,rdV]at m3
     obtain⟨A',hA'⟩:∃A',rdF (fun c l=>inR l c) v N 0 A lv=A':=⟨_,rfl⟩
     rw[hA']at m3
     have hvi:(vl.map zkt)[((j:Nat):Int).toNat]? =some (zkt v):=by simp[hv]
     repeat' first|(apply z01;refine z07 (z11 (ys:=vl.map zkt) rfl hvi) rfl rfl ?_)|refine z04 ?_|refine fk (fun _=>?_) fun _=>?_
     all_goals try omega
     refine z0f ?_
     refine z00 (z0s (fun k:Nat × Nat=>⟨88,[(2,.fn (.func g) [] []),(7,.ptr (0,26) 0),(8,I .u64 (k.2:Nat)),(9,B false),(12,I .u64 (N:Nat)),(14,I .i32 v),(28,.ptr (0,28) 0),(38,.d (.slice (vl.map zkt))),(39,I .i64 vl.length),(40,I .i64 (j:Nat)),(47,.d (lvs lv)),(48,I .i64 lv.length),(49,I .i64 (k.1:Nat))],[(26,tbx lv p.f p.l fo p.nu),(28,.siter s (q+(Utf8.decode s q).2))],H⟩)
      (fun k=>k.1≤lv.length∧k.2<2 ^ 64∧rdF (fun c l=>inR l c) v N k.1 k.2 (lv.drop k.1)=A') (fun k=>lv.length-k.1) ?_ (0,A) ⟨zAf _,m2,hA'⟩) rfl rfl
     rintro⟨k,B'⟩ ⟨n1,n2,n3⟩ ihn
     simp only at n1 n2 n3 ihn⊢
     by_cases hk:k<lv.length
     ·obtain⟨l,hl⟩:∃l,lv[k]? =some l:=⟨_,zA0 hk⟩
      have hlm:=hlv l (zA2 hl)
      have hcl:=hdl v l hlm
      have hli:(lv.map fun r=>[rgs r])[((k:Nat):Int).toNat]? =some [rgs l]:=by simp[hl]
      rw[zng _ _ _ hl]at n3
      have hbt:=ztv (S:=N) (i:=k) hNl (by omega)
      have hsh:=y5e (i:=k) (by omega)
      have hp2:2 ^ k<2 ^ 64:=Nat.pow_lt_pow_right (by decide) (by omega)
      have hor:=y2k n2 hp2
      rw[←hsh]at hor
      rw[zuj]at hcl
      by_cases htb:N.testBit k=true
      ·rw[zAz htb]at hbt
       cases hin:inR l v with
       | true =>
        rw[zAz ⟨htb,hin⟩]at n3
        rw[hin]at hcl
        have ihn':=ihn (k+1,B' ||| 2 ^ k) ⟨by simp only;omega,Nat.or_lt_two_pow n2 hp2,n3⟩ (by simp only;omega)
        dsimp only at ihn'
        rw[←hor]at ihn'
        all_goals exact zD41
       | false =>
        rw[zAy fun h=>by rw[hin]at h;cases h.2]at n3
        rw[hin]at hcl
        have ihn':=ihn (k+1,B') ⟨by simp only;omega,n2,n3⟩ (by simp only;omega)
        repeat' first|(apply z01;refine z07 (z11 (ys:=lv.map fun r=>[rgs r]) rfl hli) rfl rfl ?_)|(apply z0t;first|refine z07 (z99 (by omega)) rfl rfl ?_| refine z07 z4r rfl rfl ?_)|(apply z06;refine z1o hcl ?_)|refine z04 ?_|refine fk (fun _=>?_) fun _=>?_
        all_goals try omega
        all_goals exact z00 ihn' rfl rfl
      ·rw[zAy htb]at hbt
       rw[zAy fun h=>htb h.1]at n3
       have ihn':=ihn (k+1,B') ⟨by simp only;omega,n2,n3⟩ (by simp only;omega)
       all_goals exact zD41
     ·obtain rfl:k=lv.length:=by omega
      rw[zAs,rdF]at n3
      subst n3
      have ihm':=ihm (j+1,B') ⟨by simp only;omega,n2,m3⟩ (by simp only;omega)
      repeat' first|refine z04 ?_|refine fk (fun _=>?_) fun _=>?_
      all_goals try omega
      all_goals exact z00 ihm' rfl rfl
    ·obtain rfl:j=vl.length:=by omega
     rw[zAs,rdV]at m3
     subst m3
     by_cases hA:A=0
     ·subst hA
      have hr:=key.1 rfl
      subst hr
      repeat' first|refine z04 ?_|refine fk (fun _=>?_) fun _=>?_
      all_goals exact zD87
     ·have hr:=key.2 hA
      have ih':=ih (q+(Utf8.decode s q).2,A,false) ⟨by simp only;omega,m2,.inr ⟨rfl,hr⟩⟩ (by simp only;omega)
      all_goals exact zD84
   ·obtain rfl:q=s.size:=by omega
    have hd:=z3i (s:=s) (i:=s.size) (zAj _)
    rcases i3 with⟨rfl,h0q,rfl⟩|⟨rfl,i3⟩
    ·have hz:rst s 0=[]:=z3i (by omega)
     rw[z30,hz,List.map_nil,mtF]at hmt
     subst hmt
     cases hnu:p.nu with
     | true =>
      repeat' first|refine z04 ?_|(apply z0r;refine z2l hlt rfl rfl (by decide) ?_)
      all_goals exact zD87
     | false =>
      have ha:=zy5 (a:=0) (b:=p.l) (by decide) pl
      rw[Nat.zero_and]at ha
      have hfin:(!decide (zf3 .u64 ((0:Nat):Int) (p.l:Nat)=0))=false:=by rw[ha];rfl
      all_goals exact zD78
    ·rw[hd,List.map_nil,y6z]at i3
     have ha:=zy5 i2 pl
     have hfin:(!decide (zf3 .u64 (S:Nat) (p.l:Nat)=0))=res:=by
      rw[ha,←i3,←decide_not,decide_eq_decide];omega
     all_goals exact zD78
 ·have hne:(decide (val e=0))=false:=zAo h0
  rw[hne,Bool.false_and,Bool.false_and]at hmt
  subst hmt
  obtain⟨op,mn,mx,rs,ks⟩:=e
  rw[z4g]at hval⊢
  refine z05 func63 (by kernel_rfl) rfl (by simp) ?_
  dsimp only[f63]
  repeat' first|(apply z06;first|refine z1o hval ?_| refine z1o hvd ?_)|refine z04 ?_|refine fk (fun _=>?_) fun _=>?_
  all_goals exact zD87
theorem zni(v:Int):(Utf8.encode v).size≤4:=by
 have:=z3r (Utf8.encode v)
 rw[z6o]at this
 have h4:(ecL (zbl v)).length≤4:=by
  unfold ecL
  repeat' split
  all_goals simp
 omega
theorem y3a{t:ByteArray}{u:U}(h:rst t 0=[u]):0<t.size∧((Utf8.decode t 0).1:Int)=u.r∧(Utf8.decode t 0).2=t.size:=by
 have h0:0<t.size:=by
  false_or_by_contra
  rw[z3i (by omega)]at h;simp at h
 rw[z5y h0]at h
 simp only[List.cons.injEq]at h
 obtain⟨rfl,h2⟩:=h
 have hw:=z8r t 0 h0
 rw[y4h (by omega)]at h2
 exact⟨h0,rfl,by omega⟩
def C3(x:Int):List Int:=[x,x-32,x-80]
theorem zqu(c:Int)(hc:Utf8.valid c=true):z0a prog 101 [I .i32 c] (.d (.slice ((zkv c).map zkt))):=by
 refine z0q fun H=>?_
 have hse:=zni c
 have hfo:=y29 (Utf8.encode c) (by omega)
 have hfe:=zf2 hc
 have hvl:=zdh hc
 have hre:=y45 (z97 c)
 rw[z81 hvl,←hfe]at hre
 obtain⟨t,ht⟩:∃t,zb7 (Utf8.encode c)=t:=⟨_,rfl⟩
 have hvar:zkv c=([z97 c,z97 c-32,z97 c-80]:List Int).filter fun v=>decide (0≤v)&&decide (zb7 (Utf8.encode v)=t):=by rw[←ht];rfl
 rw[ht]at hfo hre
 obtain⟨d0,d1,d2⟩:=y3a hre
 simp only at d1
 have hvb:=z3b.1 hvl
 obtain⟨r,hr⟩:∃r,z97 c=r:=⟨_,rfl⟩
 rw[hr]at d1 hvb hvar
 have hcs:[r,r-32,r-80]=C3 r:=rfl
 obtain⟨kp,hkp⟩:∃kp:Int→Bool,(fun v:Int=>decide (0≤v)&&decide (zb7 (Utf8.encode v)=t))=kp:=⟨_,rfl⟩
 rw[hcs,hkp]at hvar
 refine z05 func101 (by kernel_rfl) rfl (by simp) ?_
 dsimp only[f101]
 repeat' first|(apply z06;refine z1o hfo ?_)|(apply z4q;refine z07 (z6p rfl rfl) rfl rfl ?_)|refine z04 ?_|(apply z0r;refine z95 rfl rfl rfl (by decide) ?_)
 all_goals try omega
 refine z1j 3 1000 21 1 rfl rfl rfl ?_
 refine z0f ?_
 refine z00 (z0s (fun q:Nat × List Int=>⟨43,[(3,.ref (0,1000)),(4,S t),(13,.ptr (0,13) 0)],[(13,.siter t q.1),(1000,.row 21 1 (q.2.map zkt))],H⟩)
  (fun q=>(q.1=0∧q.2=[])∨(q.1=t.size∧q.2=zkv c)) (fun q=>t.size-q.1) ?_ (0,[]) (.inl ⟨rfl,rfl⟩)) rfl rfl
 rintro⟨q,l⟩ i1 ih
 simp only at i1 ih⊢
 rcases i1 with⟨rfl,rfl⟩|⟨rfl,rfl⟩
 ·repeat' (first|(apply z0t;refine z07 (z1i (zc9 (by omega) (by omega))) rfl rfl ?_)|refine z04 ?_|(apply z0r;refine z1r d0 rfl rfl (by decide) ?_))
  all_goals try omega
  subst d1
  have hl3:(C3 ((Utf8.decode t 0).1:Nat)).length=3:=rfl
  refine z0f ?_
  refine z00 (z0s (fun k:Nat × List Int=>⟨43,[(3,.ref (0,1000)),(4,S t),(13,.ptr (0,13) 0),(22,.d (.slice ((C3 ((Utf8.decode t 0).1:Nat)).map zkt))),(23,I .i64 3),(24,I .i64 (k.1:Nat))],[(13,.siter t t.size),(1000,.row 21 1 (k.2.map zkt))],H⟩)
   (fun k=>k.1≤3∧k.2=((C3 ((Utf8.decode t 0).1:Nat)).take k.1).filter kp) (fun k=>3-k.1) ?_ (0,[]) ⟨zAf _,rfl⟩) rfl (by rw[Nat.zero_add,d2];rfl)
  rintro⟨k,l⟩ ⟨m1,m2⟩ ihk
  simp only at m1 m2 ihk⊢
  by_cases hk:k<3
  ·obtain⟨v,hv⟩:∃v,(C3 ((Utf8.decode t 0).1:Nat))[k]? =some v:=⟨_,zA0 (by omega)⟩
   have hvi:((C3 ((Utf8.decode t 0).1:Nat)).map zkt)[((k:Nat):Int).toNat]? =some (zkt v):=by simp[hv]
   have hve:=zni v
   have hfv:=y29 (Utf8.encode v) (by omega)
   have hst:=z5i hv
   have hkv:kp v=(decide (0≤v)&&decide (zb7 (Utf8.encode v)=t)):=by rw[←hkp]
   have hll:l.length≤3:=by
    rw[m2]
    have:=List.length_filter_le kp ((C3 ((Utf8.decode t 0).1:Nat)).take k)
    rw[zAm]at this;omega
   cases hkk:kp v with
   | true =>
    rw[hkk]at hkv
    have hkv':=hkv.symm
    rw[zA7,zA3,zA3]at hkv'
    have ihk':=ihk (k+1,l++[v]) ⟨by simp only;omega,by simp only;rw[hst,List.filter_append,m2];simp[hkk]⟩ (by simp only;omega)
    repeat' first|(apply z01;refine z07 (z11 (ys:=(C3 ((Utf8.decode t 0).1:Nat)).map zkt) rfl hvi) rfl rfl ?_)|(apply z14;refine z2w (g:=zkt) v rfl ?_)|(apply z06;refine z1o hfv ?_)|(apply z4q;refine z07 (z6p rfl rfl) rfl rfl ?_)|refine z04 ?_|refine fk (fun _=>?_) fun _=>?_
    all_goals try (exfalso;first|omega|exact absurd hkv'.2 (by assumption))
    all_goals refine z1d 40 1000 ?_
    all_goals exact z00 ihk' rfl rfl
   | false =>
    rw[hkk]at hkv
    have hkn:¬(0≤v∧zb7 (Utf8.encode v)=t):=fun h=>by
     rw[zAi h.1,zAi h.2]at hkv;cases hkv
    have ihk':=ihk (k+1,l) ⟨by simp only;omega,by simp only;rw[hst,List.filter_append,m2];simp[hkk]⟩ (by simp only;omega)
    repeat' first|(apply z01;refine z07 (z11 (ys:=(C3 ((Utf8.decode t 0).1:Nat)).map zkt) rfl hvi) rfl rfl ?_)|(apply z14;refine z2w (g:=zkt) v rfl ?_)|(apply z06;refine z1o hfv ?_)|(apply z4q;refine z07 (z6p rfl rfl) rfl rfl ?_)|refine z04 ?_|refine fk (fun _=>?_) fun _=>?_
    all_goals try (exfalso;first|omega|exact hkn ⟨by assumption,by assumption⟩)
    all_goals exact z00 ihk' rfl rfl
  ·obtain rfl:k=3:=by omega
   have m3:l=zkv c:=by rw[m2,hvar];rfl
   subst m3
   have ih':=ih (t.size,zkv c) (.inr ⟨rfl,rfl⟩) (by simp only;omega)
   repeat' first|refine z04 ?_|fail
   all_goals exact zD8
 ·repeat' (first|refine z04 ?_|(apply z0r;refine z2l (Nat.lt_irrefl _) rfl rfl (by decide) ?_))
  all_goals try omega
  refine z0o 1000 rfl ?_
  skip
  all_goals try omega
  all_goals exact z03 func101 _ z1h ⟨rfl,rfl⟩
theorem zxa(c:Int):(zkv c).length≤3:=List.length_filter_le _ _
theorem y0m(e:Rx)(hf:fit e)(s:ByteArray)(hs:s.size≤1000000):z0a prog 74 [.d (Drx e),S s] (B (mtS zkv e s)):=by
 have hm:=y69 101 zkv zqu zxa e hf s hs
 obtain⟨b,hb⟩:∃b,mtS zkv e s=b:=⟨_,rfl⟩
 rw[hb]at hm⊢
 obtain⟨op,mn,mx,rs,ks⟩:=e
 rw[z4g]at hm⊢
 refine z0q fun H=>?_
 refine z05 func74 (by kernel_rfl) rfl (by simp) ?_
 dsimp only[f74]
 repeat' first|(apply z06;refine z1o hm ?_)|refine z04 ?_|fail
 all_goals exact z03 func74 _ z1h ⟨rfl,rfl⟩
end Go.Proofs.YtmcggompdmngmaaGreatDoor
