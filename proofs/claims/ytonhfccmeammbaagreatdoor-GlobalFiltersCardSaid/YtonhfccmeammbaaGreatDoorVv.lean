/- A part. -/
import Derived.Test.YtonhfccmeammbaaGreatDoorVq
import Derived.Test.YtonhfccmeammbaaGreatDoorVr
import Derived.Test.YtonhfccmeammbaaGreatDoorVp
set_option linter.all false
open Go.Proofs.Tryz
namespace Go.Proofs.YtonhfccmeammbaaGreatDoor
open Go.Ab Go.Rx
set_option maxHeartbeats 20000000
set_option maxRecDepth 100000
attribute [local irreducible] Run Ops Op1 z1z Val Tr z0q z1v NF Rel z5c z5d zal
mutual
theorem zln:∀e:Rx,fit e→y46 (fun l=>l.length≤9223372036854775807) e
 | .mk op mn mx rs ks,h=>by rw[fit]at h;rw[y46];exact⟨h.1,zjf ks h.2.2⟩
theorem zjf:∀ks:List Rx,zud ks→zku (fun l=>l.length≤9223372036854775807) ks
 | [],_=>by rw[zku];trivial
 | k::ks,h=>by rw[zud]at h;rw[zku];exact⟨zln k h.1,zjf ks h.2⟩
end
theorem zyw(l:List Rg)(c:Int):inB l c=inR l c:=rfl
abbrev zje(x:Int):List D:=[zbg x]
theorem zwv:∀(l:List U) (i:Nat),(unF i l).all okU=l.all y3j
 | [],i=>rfl
 | u::l,i=>by
  rw[unF,List.all_cons,List.all_cons,zwv l]
  congr 1
  simp only[okU,y3j]
  congr 1
  rw[decide_eq_decide];omega
theorem zx5(S:Nat):∀(l:List Nat) (i acc:Nat),acc<2 ^ 64→(∀x∈l,x<2 ^ 64)→nxF S i acc l<2 ^ 64
 | [],i,acc,h,_=>h
 | x::l,i,acc,h,hl=>by
  rw[nxF]
  refine zx5 S l _ _ ?_ fun y hy=>hl y (by simp[hy])
  split
  ·exact Nat.or_lt_two_pow h (hl x (by simp))
  ·exact h
theorem y45{e:Rx}(h:val e=0):Rx.pn e≤64:=by
 rw[val]at h
 split at h
 ·simp at h
 split at h
 ·simp at h
 split at h
 ·simp at h
 ·omega
theorem zpj(g:FuncId)(vs:Int→List Int)(hvs:∀c:Int,Utf8.valid c=true→z0q prog g [I .i32 c] (.d (.slice ((vs c).map zje))))(hvl:∀c,(vs c).length≤3)(e:Rx)(hf:fit e)(s:ByteArray)(hs:s.size≤1000000) :
 z0q prog 123 [.d (Drx e),S s,.fn (.func g) [] []] (B (mtS vs e s)):=by
 refine z0y fun H=>?_
 have hval:=zff e hf
 have hvd:=zxz s hs
 rw[zwv]at hvd
 change z0q prog 151 [S s] (B (zwl s))at hvd
 have hmt:mtS vs e s=(decide (val e=0)&&zwl s&&Rx.mt (okV vs) e (zah s)):=rfl
 obtain⟨res,hres⟩:∃b,mtS vs e s=b:=⟨_,rfl⟩
 rw[hres]at hmt⊢
 by_cases h0:val e=0
 ·cases h1:zwl s with
  | false =>
   rw[h1,Bool.and_false,Bool.false_and]at hmt
   rw[h1]at hvd
   rw[h0]at hval
   subst hmt
   obtain⟨op,mn,mx,rs,ks⟩:=e
   rw[z4d]at hval⊢
   refine z0g func123 (by kernel_rfl) rfl (by simp) ?_
   dsimp only[f123]
   repeat' first|(apply z05;first|refine z0n ?_| (apply z0a;refine z02 z1r rfl rfl ?_)|(apply z0j;first|refine z29 hval ?_| refine z29 hvd ?_)|(apply z18;refine z0b z1m ?_))|(apply z06;first|refine z0m ?_|apply z09)|(apply z07;first|apply z08|apply z00|refine z1j ?_)
   all_goals exact zD66
  | true =>
   rw[h1,h0,zAi rfl,Bool.true_and,Bool.true_and]at hmt
   rw[h1]at hvd
   have hvn:=zbr h0
   have hpn:=y45 h0
   have hof:=y6v e hvn hf hpn
   have hbl:=(y0y hvn).bl tb0 rfl
   have hfw:=(y0y hvn).few tb0 rfl
   have hlv:=y5i.1 e (zln e hf) tb0 (by simp)
   rw[h0]at hval
   dsimp only[ofB]at hof
   rw[Rx.mt]at hmt
   change res=mtF (okV vs) (bd e tb0).1 (bd e tb0).2 (zah s)at hmt
   generalize hB:bd e tb0=r1 at *
   obtain⟨t1,p⟩:=r1
   have hfw2:(t1.lv.length:Int)≤Rx.pn e:=by simpa using hfw
   obtain⟨s2,pf,pl⟩:=hbl.sm ⟨rfl,by simp⟩ (by show t1.lv.length≤64;omega)
   obtain⟨lv,fo⟩:=t1
   have hl64:lv.length≤64:=by
    have:lv.length=(⟨lv,fo⟩:Tb).lv.length:=rfl
    omega
   have hfo:fo.length=lv.length:=s2.len
   have hfx:∀x∈fo,x<2 ^ 64:=s2.sm
   simp only at hlv pf pl hmt hof
   obtain⟨op,mn,mx,rs,ks⟩:=e
   rw[z4d]at hval hof⊢
   refine z0g func123 (by kernel_rfl) rfl (by simp) ?_
   dsimp only[f123]
   repeat' (first | (apply z05; (first | refine z0n ?_| (apply z0a; (refine z02 z1r rfl rfl ?_)) | (apply z0j; (first | refine z29 hval ?_| refine z29 hvd ?_| (refine zs7 rfl (hof _) (by decide) rfl (fun r H' h => ⟨_, h.1, h.2, rfl, rfl, ?_⟩)) /- zdh -/)) | (apply z18; (refine z0b z1m ?_)) | refine zaj rfl rfl rfl (by decide) ?_)) | (apply z06; (first | refine z0m ?_ | apply z09)) | (apply z07; (first | apply z08 | apply z00 | refine z15 ?_| apply z04 | apply z01)))
   all_goals try omega
   refine z0r ?_
   refine z0d (z1o (fun q:Nat × Nat × Bool=>⟨88,[(2,.fn (.func g) [] []),(7,.ptr (0,26) 0),(8,I .u64 (q.2.1:Nat)),(9,B q.2.2),(28,.ptr (0,28) 0)],[(26,tbx lv p.f p.l fo p.nu),(28,.siter s q.1)],H⟩)
    (fun q=>q.1≤s.size∧q.2.1<2 ^ 64∧((q.2.2=true∧q.1=0∧q.2.1=0)∨(q.2.2=false∧znu (okV vs) ⟨lv,fo⟩ p.l q.2.1 ((rst s q.1).map (·.r))=res))) (fun q=>s.size-q.1) ?_ (0,0,true) ⟨zAf _,by decide,.inl ⟨rfl,rfl,rfl⟩⟩) rfl rfl
   rintro⟨q,S,beg⟩ ⟨i1,i2,i3⟩ ih
   simp only at i1 i2 i3 ih⊢
   by_cases hlt:q<s.size
   ·have hd:=z9y hlt
    have hw:=zcv s q hlt
    have hcv:=zes s q hlt
    have hvc:=hvs _ hcv
    have hvl2:=hvl ((Utf8.decode s q).1:Nat)
    have hnx:=zts (X:=26) lv p.f p.l fo p.nu S i2 (by omega) hfx beg 0
    obtain⟨N,hN⟩:∃N,(if beg=true then p.f else nxF S 0 0 fo)=N:=⟨_,rfl⟩
    have hNl:N<2 ^ 64:=by
     rw[←hN]
     split
     ·exact pf
     ·exact zx5 S fo 0 0 (by decide) hfx
    rw[hN]at hnx
    obtain⟨c,hc⟩:∃c,((Utf8.decode s q).1:Int)=c:=⟨_,rfl⟩
    obtain⟨vl,hvle⟩:∃vl,vs ((Utf8.decode s q).1:Nat)=vl:=⟨_,rfl⟩
    rw[hvle]at hvc hvl2
    obtain⟨S',hS'⟩:∃S',rdF (okV vs) c N 0 0 lv=S':=⟨_,rfl⟩
    have key:(S'=0→res=false)∧(S'≠0→znu (okV vs) ⟨lv,fo⟩ p.l S' ((rst s (q+(Utf8.decode s q).2)).map (·.r))=res):=by
     rcases i3 with⟨rfl,rfl,rfl⟩|⟨rfl,i3⟩
     ·rw[zAz rfl]at hN
      subst hN
      rw[zah,hd,List.map_cons,mtF]at hmt
      simp only[hc,hS']at hmt
      constructor
      ·intro h;rw[hmt,zAz h]
      ·intro h;rw[hmt,zAy h]
     ·rw[zAy (by decide)]at hN
      rw[hd,List.map_cons,znu]at i3
      simp only[hc,hN,hS']at i3
      constructor
      ·intro h;rw[←i3,zAz h]
      ·intro h;rw[zAy h]at i3;exact i3
    have hS'l:S'<2 ^ 64:=by rw[←hS'];exact y1l _ _ _ hl64 (by decide)
    have hrv:=y3t vs c N lv
    rw[hS',←hc,hvle]at hrv
    have hdl:∀v:Int,∀l:List Rg,l.length≤9223372036854775807→z0q prog 154 [.d (rgs l),I .i32 v] (B (inB l v)):=fun v l h=>zo9 l h v
    repeat' (first | (apply z05; (first | refine z0n ?_| (apply z0s; (refine z02 (z0w rfl) rfl rfl ?_)) | (apply z0j; (first | refine z4u hnx rfl rfl (by decide) ?_ | (refine zxn [] [] [I .i32 ((Utf8.decode s q).1 : Int)] (hvc.at _) rfl rfl (by decide) ?_) /- zdh -/)) | refine z3e hlt rfl rfl (by decide) ?_)) | (apply z06; (first | refine z0m ?_ | apply z09)) | (apply z07; (first | apply z08 | apply z00 | refine z1j ?_| apply z04 | apply z01)))
    all_goals try omega
    refine z0r ?_
    refine z0d (z1o (fun j:Nat × Nat=>⟨88,[(2,.fn (.func g) [] []),(7,.ptr (0,26) 0),(8,I .u64 (j.2:Nat)),(9,B false),(12,I .u64 (N:Nat)),(28,.ptr (0,28) 0),(38,.d (.slice (vl.map zje))),(39,I .i64 vl.length),(40,I .i64 (j.1:Nat))],[(26,tbx lv p.f p.l fo p.nu),(28,.siter s (q+(Utf8.decode s q).2))],H⟩)
     (fun j=>j.1≤vl.length∧j.2<2 ^ 64∧rdV N lv (vl.drop j.1) j.2=S') (fun j=>vl.length-j.1) ?_ (0,0) ⟨zAf _,by decide,hrv⟩) rfl rfl
    rintro⟨j,A⟩ ⟨m1,m2,m3⟩ ihm
    simp only at m1 m2 m3 ihm⊢
    by_cases hj:j<vl.length
    ·obtain⟨v,hv⟩:∃v,vl[j]? =some v:=⟨_,zA0 hj⟩
     rw[drop_cons hv,rdV]at m3
     obtain⟨A',hA'⟩:∃A',rdF (fun c l=>inR l c) v N 0 A lv=A':=⟨_,rfl⟩
     rw[hA']at m3
     have hvi:(vl.map zje)[((j:Nat):Int).toNat]? =some (zje v):=by simp[hv]
     repeat' first|(apply z05;first|refine z0n ?_| (apply z0a;first|refine z02 z16 rfl rfl ?_| refine z02 z2f rfl rfl ?_)|(apply z0c;refine z02 z0i rfl rfl ?_)|(apply z0k;refine z02 (z1a (ys:=vl.map zje) rfl hvi) rfl rfl ?_)|(apply z0s;refine z02 (z0w rfl) rfl rfl ?_))|(apply z06;first|refine z0m ?_|apply z09)|(apply z07;first|apply z08|apply z00|apply z04|apply z01|apply z03|refine z0h (fun _=>?_) (fun _=>?_)| refine z0o ?_)
     all_goals try omega
     refine z0r ?_
     refine z0d (z1o (fun k:Nat × Nat=>⟨88,[(2,.fn (.func g) [] []),(7,.ptr (0,26) 0),(8,I .u64 (k.2:Nat)),(9,B false),(12,I .u64 (N:Nat)),(14,I .i32 v),(28,.ptr (0,28) 0),(38,.d (.slice (vl.map zje))),(39,I .i64 vl.length),(40,I .i64 (j:Nat)),(47,.d (lvs lv)),(48,I .i64 lv.length),(49,I .i64 (k.1:Nat))],[(26,tbx lv p.f p.l fo p.nu),(28,.siter s (q+(Utf8.decode s q).2))],H⟩)
      (fun k=>k.1≤lv.length∧k.2<2 ^ 64∧rdF (fun c l=>inR l c) v N k.1 k.2 (lv.drop k.1)=A') (fun k=>lv.length-k.1) ?_ (0,A) ⟨zAf _,m2,hA'⟩) rfl rfl
     rintro⟨k,B'⟩ ⟨n1,n2,n3⟩ ihn
     simp only at n1 n2 n3 ihn⊢
     by_cases hk:k<lv.length
     ·obtain⟨l,hl⟩:∃l,lv[k]? =some l:=⟨_,zA0 hk⟩
      have hlm:=hlv l (zA2 hl)
      have hcl:=hdl v l hlm
      have hli:(lv.map fun r=>[rgs r])[((k:Nat):Int).toNat]? =some [rgs l]:=by simp[hl]
      rw[zsv _ _ _ hl]at n3
      have hbt:=zyi (S:=N) (i:=k) hNl (by omega)
      have hsh:=y3y (i:=k) (by omega)
      have hp2:2 ^ k<2 ^ 64:=Nat.pow_lt_pow_right (by decide) (by omega)
      have hor:=y0b n2 hp2
      rw[←hsh]at hor
      rw[zyw]at hcl
      by_cases htb:N.testBit k=true
      ·rw[zAz htb]at hbt
       cases hin:inR l v with
       | true =>
        rw[zAz ⟨htb,hin⟩]at n3
        rw[hin]at hcl
        have ihn':=ihn (k+1,B' ||| 2 ^ k) ⟨by simp only;omega,Nat.or_lt_two_pow n2 hp2,n3⟩ (by simp only;omega)
        dsimp only at ihn'
        rw[←hor]at ihn'
        repeat' first|(apply z05;first|refine z0n ?_| (apply z0a;refine z02 z2f rfl rfl ?_)|(apply z0k;refine z02 (z1a (ys:=lv.map fun r=>[rgs r]) rfl hli) rfl rfl ?_)|(apply z0t;first|refine z02 (zgs (by omega)) rfl rfl ?_| refine z02 (zvd (by omega)) rfl rfl ?_| refine z02 z8s rfl rfl ?_| refine z02 zb2 rfl rfl ?_| refine z02 (z0z z1h) rfl rfl ?_)|(apply z0j;refine z29 hcl ?_))|(apply z06;first|refine z0m ?_|apply z09|refine z1g ?_| refine z1p (fun _=>?_) fun _=>?_)|(apply z07;first|apply z08|apply z00|refine z1j ?_| refine z15 ?_| apply z04|apply z01|apply z03|refine z0h (fun _=>?_) (fun _=>?_)| refine z0o ?_)
        all_goals exact zD94
       | false =>
        rw[zAy fun h=>by rw[hin]at h;cases h.2]at n3
        rw[hin]at hcl
        have ihn':=ihn (k+1,B') ⟨by simp only;omega,n2,n3⟩ (by simp only;omega)
        repeat' first|(apply z05;first|refine z0n ?_| (apply z0a;refine z02 z2f rfl rfl ?_)|(apply z0k;refine z02 (z1a (ys:=lv.map fun r=>[rgs r]) rfl hli) rfl rfl ?_)|(apply z0t;first|refine z02 (zgs (by omega)) rfl rfl ?_| refine z02 z8s rfl rfl ?_| refine z02 (z0z z1h) rfl rfl ?_)|(apply z0j;refine z29 hcl ?_))|(apply z06;first|refine z0m ?_|apply z09|refine z1g ?_| refine z1p (fun _=>?_) fun _=>?_)|(apply z07;first|apply z08|apply z00|refine z15 ?_| apply z04|apply z01|apply z03|refine z0h (fun _=>?_) (fun _=>?_)| refine z0o ?_)
        all_goals exact zD94
      ·rw[zAy htb]at hbt
       rw[zAy fun h=>htb h.1]at n3
       have ihn':=ihn (k+1,B') ⟨by simp only;omega,n2,n3⟩ (by simp only;omega)
       repeat' first|(apply z05;first|refine z0n ?_| (apply z0a;refine z02 z2f rfl rfl ?_)|(apply z0k;refine z02 (z1a (ys:=lv.map fun r=>[rgs r]) rfl hli) rfl rfl ?_)|(apply z0t;first|refine z02 (zgs (by omega)) rfl rfl ?_| refine z02 (zvd (by omega)) rfl rfl ?_| refine z02 z8s rfl rfl ?_| refine z02 zb2 rfl rfl ?_| refine z02 (z0z z1h) rfl rfl ?_)|(apply z0j;refine z29 hcl ?_))|(apply z06;first|refine z0m ?_|apply z09|refine z1g ?_| refine z1p (fun _=>?_) fun _=>?_)|(apply z07;first|apply z08|apply z00|refine z15 ?_| apply z04|apply z01|apply z03|refine z0h (fun _=>?_) (fun _=>?_)| refine z2q rfl (fun _=>?_) (fun _=>?_)|refine z0o ?_)
       all_goals exact zD94
     ·obtain rfl:k=lv.length:=by omega
      rw[zAs,rdF]at n3
      subst n3
      have ihm':=ihm (j+1,B') ⟨by simp only;omega,n2,m3⟩ (by simp only;omega)
      repeat' first|(apply z05;first|refine z0n ?_| (apply z0t;refine z02 (z0z z1h) rfl rfl ?_))|(apply z06;first|refine z0m ?_|apply z09)|(apply z07;first|apply z08|apply z00|apply z04|apply z01|apply z03|refine z0h (fun _=>?_) (fun _=>?_)| refine z0o ?_)
      all_goals try omega
      all_goals exact z0d ihm' rfl rfl
    ·obtain rfl:j=vl.length:=by omega
     rw[zAs,rdV]at m3
     subst m3
     by_cases hA:A=0
     ·subst hA
      have hr:=key.1 rfl
      subst hr
      repeat' first|(apply z05;refine z0n ?_)|(apply z06;first|refine z0m ?_|apply z09)|(apply z07;first|apply z08|apply z00|refine z1j ?_| apply z04|apply z01|refine z0h (fun _=>?_) (fun _=>?_)| refine z0o ?_)
      all_goals exact zD66
     ·have hr:=key.2 hA
      have ih':=ih (q+(Utf8.decode s q).2,A,false) ⟨by simp only;omega,m2,.inr ⟨rfl,hr⟩⟩ (by simp only;omega)
      repeat' first|(apply z05;refine z0n ?_)|(apply z06;first|refine z0m ?_|apply z09)|(apply z07;first|apply z08|apply z00|apply z04|apply z01|apply z03|refine z0h (fun _=>?_) (fun _=>?_)| refine z0o ?_)
      all_goals exact zD23
   ·obtain rfl:q=s.size:=by omega
    have hd:=z68 (s:=s) (i:=s.size) (zAj _)
    rcases i3 with⟨rfl,h0q,rfl⟩|⟨rfl,i3⟩
    ·have hz:rst s 0=[]:=z68 (by omega)
     rw[zah,hz,List.map_nil,mtF]at hmt
     subst hmt
     cases hnu:p.nu with
     | true =>
      repeat' first|(apply z05;first|refine z0n ?_| (apply z0a;refine z02 z16 rfl rfl ?_)|(apply z0c;refine z02 z0i rfl rfl ?_)|refine z3f hlt rfl rfl (by decide) ?_)|(apply z06;first|refine z0m ?_|apply z09|refine z1g ?_)|(apply z07;first|apply z08|apply z00|refine z15 ?_| refine z0o ?_)
      all_goals exact zD66
     | false =>
      have ha:=zzm (a:=0) (b:=p.l) (by decide) pl
      rw[Nat.zero_and]at ha
      have hfin:(!decide (zqe .u64 ((0:Nat):Int) (p.l:Nat)=0))=false:=by rw[ha];rfl
      repeat' first|(apply z05;first|refine z0n ?_| (apply z0a;refine z02 z16 rfl rfl ?_)|(apply z0c;refine z02 z0i rfl rfl ?_)|(apply z0t;refine z02 z8s rfl rfl ?_)|refine z3f hlt rfl rfl (by decide) ?_)|(apply z06;first|refine z0m ?_|apply z09)|(apply z07;first|apply z08|apply z00|refine z15 ?_| refine z0o ?_)
      all_goals exact zD103
    ·rw[hd,List.map_nil,znu]at i3
     have ha:=zzm i2 pl
     have hfin:(!decide (zqe .u64 (S:Nat) (p.l:Nat)=0))=res:=by
      rw[ha,←i3,←decide_not,decide_eq_decide];omega
     repeat' first|(apply z05;first|refine z0n ?_| (apply z0a;refine z02 z16 rfl rfl ?_)|(apply z0c;refine z02 z0i rfl rfl ?_)|(apply z0t;refine z02 z8s rfl rfl ?_)|refine z3f hlt rfl rfl (by decide) ?_)|(apply z06;first|refine z0m ?_|apply z09|refine z1g ?_)|(apply z07;first|apply z08|apply z00|refine z15 ?_| refine z0o ?_)
     all_goals exact zD103
 ·have hne:(decide (val e=0))=false:=zAo h0
  rw[hne,Bool.false_and,Bool.false_and]at hmt
  subst hmt
  obtain⟨op,mn,mx,rs,ks⟩:=e
  rw[z4d]at hval⊢
  refine z0g func123 (by kernel_rfl) rfl (by simp) ?_
  dsimp only[f123]
  repeat' first|(apply z05;first|refine z0n ?_| (apply z0a;refine z02 z1r rfl rfl ?_)|(apply z0j;first|refine z29 hval ?_| refine z29 hvd ?_)|(apply z18;refine z0b z1m ?_))|(apply z06;first|refine z0m ?_|apply z09|refine z1g ?_| refine z39 rfl rfl (fun _=>?_) fun _=>?_)|(apply z07;first|apply z08|apply z00|refine z1j ?_| apply z04|refine z2q rfl (fun _=>?_) fun _=>?_)
  all_goals exact zD66
theorem y2s(c:Int):z0q prog 125 [I .i32 c] (.d (.slice (([c]:List Int).map zje))):=by
 refine z0y fun H=>?_
 refine z0g func125 (by kernel_rfl) rfl (by simp) ?_
 dsimp only[f125]
 repeat' first|(apply z05;first|refine z0n ?_| (apply z3c;refine z3b rfl ?_))|(apply z06;first|refine z0m ?_|apply z09)|(apply z07;first|apply z08|apply z00)
 all_goals exact z0e func125 _ z0p ⟨rfl,rfl⟩
theorem zmk(v:Int):(Utf8.encode v).size≤4:=by
 have:=z6v (Utf8.encode v)
 rw[za3]at this
 have h4:(ecL (zhq v)).length≤4:=by
  unfold ecL
  repeat' split
  all_goals simp
 omega
theorem zxx{t:ByteArray}{u:U}(h:rst t 0=[u]):0<t.size∧((Utf8.decode t 0).1:Int)=u.r∧(Utf8.decode t 0).2=t.size:=by
 have h0:0<t.size:=by
  false_or_by_contra
  rw[z68 (by omega)]at h;simp at h
 rw[z9y h0]at h
 simp only[List.cons.injEq]at h
 obtain⟨rfl,h2⟩:=h
 have hw:=zcv t 0 h0
 rw[zy2 (by omega)]at h2
 exact⟨h0,rfl,by omega⟩
def C3(x:Int):List Int:=[x,x-32,x-80]
theorem znz(c:Int)(hc:Utf8.valid c=true):z0q prog 124 [I .i32 c] (.d (.slice ((zgk c).map zje))):=by
 refine z0y fun H=>?_
 have hse:=zmk c
 have hfo:=zwa (Utf8.encode c) (by omega)
 have hfe:=z7p hc
 have hvl:=z8t hc
 have hre:=zkl (z65 c)
 rw[zbw hvl,←hfe]at hre
 obtain⟨t,ht⟩:∃t,za4 (Utf8.encode c)=t:=⟨_,rfl⟩
 have hvar:zgk c=([z65 c,z65 c-32,z65 c-80]:List Int).filter fun v=>decide (0≤v)&&decide (za4 (Utf8.encode v)=t):=by rw[←ht];rfl
 rw[ht]at hfo hre
 obtain⟨d0,d1,d2⟩:=zxx hre
 simp only at d1
 have hvb:=z3r.1 hvl
 obtain⟨r,hr⟩:∃r,z65 c=r:=⟨_,rfl⟩
 rw[hr]at d1 hvb hvar
 have hcs:[r,r-32,r-80]=C3 r:=rfl
 obtain⟨kp,hkp⟩:∃kp:Int→Bool,(fun v:Int=>decide (0≤v)&&decide (za4 (Utf8.encode v)=t))=kp:=⟨_,rfl⟩
 rw[hcs,hkp]at hvar
 refine z0g func124 (by kernel_rfl) rfl (by simp) ?_
 dsimp only[f124]
 repeat' first|(apply z05;first|refine z0n ?_| (apply z0j;refine z29 hfo ?_)|(apply z9u;refine z02 (zaw rfl rfl) rfl rfl ?_)|refine zaj rfl rfl rfl (by decide) ?_)|(apply z06;first|refine z0m ?_|apply z09)|(apply z07;first|apply z08|apply z00|apply z01)
 all_goals try omega
 refine z6n 3 1000 21 1 rfl rfl rfl ?_
 refine z0r ?_
 refine z0d (z1o (fun q:Nat × List Int=>⟨43,[(3,.ref (0,1000)),(4,S t),(13,.ptr (0,13) 0)],[(13,.siter t q.1),(1000,.row 21 1 (q.2.map zje))],H⟩)
  (fun q=>(q.1=0∧q.2=[])∨(q.1=t.size∧q.2=zgk c)) (fun q=>t.size-q.1) ?_ (0,[]) (.inl ⟨rfl,rfl⟩)) rfl rfl
 rintro⟨q,l⟩ i1 ih
 simp only at i1 ih⊢
 rcases i1 with⟨rfl,rfl⟩|⟨rfl,rfl⟩
 ·repeat' (first|(apply z05;first|refine z0n ?_| (apply z0t;refine z02 (z2l (zo4 (by omega) (by omega))) rfl rfl ?_)|(apply z0s;refine z02 (z4a rfl) rfl rfl ?_)|(apply z3c;refine z3b rfl ?_)|refine z3e d0 rfl rfl (by decide) ?_)|(apply z06;first|refine z0m ?_|apply z09)|(apply z07;first|apply z08|apply z00|refine z1j ?_| apply z04|apply z01))
  all_goals try omega
  subst d1
  have hl3:(C3 ((Utf8.decode t 0).1:Nat)).length=3:=rfl
  refine z0r ?_
  refine z0d (z1o (fun k:Nat × List Int=>⟨43,[(3,.ref (0,1000)),(4,S t),(13,.ptr (0,13) 0),(22,.d (.slice ((C3 ((Utf8.decode t 0).1:Nat)).map zje))),(23,I .i64 3),(24,I .i64 (k.1:Nat))],[(13,.siter t t.size),(1000,.row 21 1 (k.2.map zje))],H⟩)
   (fun k=>k.1≤3∧k.2=((C3 ((Utf8.decode t 0).1:Nat)).take k.1).filter kp) (fun k=>3-k.1) ?_ (0,[]) ⟨zAf _,rfl⟩) rfl (by rw[Nat.zero_add,d2];rfl)
  rintro⟨k,l⟩ ⟨m1,m2⟩ ihk
  simp only at m1 m2 ihk⊢
  by_cases hk:k<3
  ·obtain⟨v,hv⟩:∃v,(C3 ((Utf8.decode t 0).1:Nat))[k]? =some v:=⟨_,zA0 (by omega)⟩
   have hvi:((C3 ((Utf8.decode t 0).1:Nat)).map zje)[((k:Nat):Int).toNat]? =some (zje v):=by simp[hv]
   have hve:=zmk v
   have hfv:=zwa (Utf8.encode v) (by omega)
   have hst:=z7x hv
   have hkv:kp v=(decide (0≤v)&&decide (za4 (Utf8.encode v)=t)):=by rw[←hkp]
   have hll:l.length≤3:=by
    rw[m2]
    have:=List.length_filter_le kp ((C3 ((Utf8.decode t 0).1:Nat)).take k)
    rw[zAm]at this;omega
   cases hkk:kp v with
   | true =>
    rw[hkk]at hkv
    have hkv':=hkv.symm
    rw[zA7,zA3,zA3]at hkv'
    have ihk':=ihk (k+1,l++[v]) ⟨by simp only;omega,by simp only;rw[hst,List.filter_append,m2];simp[hkk]⟩ (by simp only;omega)
    repeat' first|(apply z05;first|refine z0n ?_| (apply z0a;refine z02 z2f rfl rfl ?_)|(apply z0k;refine z02 (z1a (ys:=(C3 ((Utf8.decode t 0).1:Nat)).map zje) rfl hvi) rfl rfl ?_)|(apply z0t;refine z02 (z0z z1h) rfl rfl ?_)|(apply z0s;refine z99 (g:=zje) v rfl ?_)|(apply z0j;refine z29 hfv ?_)|(apply z3c;refine z3b rfl ?_)|(apply z9u;refine z02 (zaw rfl rfl) rfl rfl ?_))|(apply z06;first|refine z0m ?_|apply z09|refine z1g ?_| refine z1p (fun _=>?_) fun _=>?_)|(apply z07;first|apply z08|apply z00|refine z15 ?_| apply z04|apply z01|apply z03|refine z0h (fun _=>?_) (fun _=>?_)| refine z0o ?_)
    all_goals try (exfalso;first|omega|exact absurd hkv'.2 (by assumption))
    all_goals refine z4n 40 1000 rfl rfl ?_
    all_goals exact z0d ihk' rfl rfl
   | false =>
    rw[hkk]at hkv
    have hkn:¬(0≤v∧za4 (Utf8.encode v)=t):=fun h=>by
     rw[zAi h.1,zAi h.2]at hkv;cases hkv
    have ihk':=ihk (k+1,l) ⟨by simp only;omega,by simp only;rw[hst,List.filter_append,m2];simp[hkk]⟩ (by simp only;omega)
    repeat' first|(apply z05;first|refine z0n ?_| (apply z0a;refine z02 z2f rfl rfl ?_)|(apply z0k;refine z02 (z1a (ys:=(C3 ((Utf8.decode t 0).1:Nat)).map zje) rfl hvi) rfl rfl ?_)|(apply z0t;refine z02 (z0z z1h) rfl rfl ?_)|(apply z0s;refine z99 (g:=zje) v rfl ?_)|(apply z0j;refine z29 hfv ?_)|(apply z3c;refine z3b rfl ?_)|(apply z9u;refine z02 (zaw rfl rfl) rfl rfl ?_))|(apply z06;first|refine z0m ?_|apply z09|refine z1g ?_| refine z1p (fun _=>?_) fun _=>?_)|(apply z07;first|apply z08|apply z00|refine z15 ?_| apply z04|apply z01|apply z03|refine z0h (fun _=>?_) (fun _=>?_)| refine z0o ?_)
    all_goals try (exfalso;first|omega|exact hkn ⟨by assumption,by assumption⟩)
    all_goals exact z0d ihk' rfl rfl
  ·obtain rfl:k=3:=by omega
   have m3:l=zgk c:=by rw[m2,hvar];rfl
   subst m3
   have ih':=ih (t.size,zgk c) (.inr ⟨rfl,rfl⟩) (by simp only;omega)
   repeat' first|(apply z05;refine z0n ?_)|(apply z06;first|refine z0m ?_|apply z09)|(apply z07;first|apply z08|apply z00|refine z15 ?_| apply z03|refine z0o ?_)
   all_goals exact zD23
 ·repeat' (first|(apply z05;first|refine z0n ?_| refine z3f (Nat.lt_irrefl _) rfl rfl (by decide) ?_)|(apply z06;first|refine z0m ?_|apply z09)|(apply z07;first|apply z08|apply z00|refine z15 ?_| refine z0o ?_))
  all_goals try omega
  refine z1f 1000 rfl ?_
  skip
  all_goals try omega
  all_goals exact z0e func124 _ z0p ⟨rfl,rfl⟩
theorem zuh(e:Rx)(hf:fit e)(s:ByteArray)(hs:s.size≤1000000):z0q prog 95 [.d (Drx e),S s] (B (mtS (fun c=>[c]) e s)):=by
 have hm:=zpj 125 (fun c=>[c]) (fun c _=>y2s c) (fun c=>by simp) e hf s hs
 obtain⟨b,hb⟩:∃b,mtS (fun c=>[c]) e s=b:=⟨_,rfl⟩
 rw[hb]at hm⊢
 obtain⟨op,mn,mx,rs,ks⟩:=e
 rw[z4d]at hm⊢
 refine z0y fun H=>?_
 refine z0g func95 (by kernel_rfl) rfl (by simp) ?_
 dsimp only[f95]
 repeat' first|(apply z05;first|refine z0n ?_| (apply z0a;refine z02 z1r rfl rfl ?_)|(apply z0j;refine z29 hm ?_)|(apply z18;refine z0b z1m ?_))|(apply z06;first|refine z0m ?_|apply z09)|(apply z07;first|apply z08|apply z00)
 all_goals exact z0e func95 _ z0p ⟨rfl,rfl⟩
theorem zta(c:Int):(zgk c).length≤3:=List.length_filter_le _ _
theorem zv0(e:Rx)(hf:fit e)(s:ByteArray)(hs:s.size≤1000000):z0q prog 94 [.d (Drx e),S s] (B (mtS zgk e s)):=by
 have hm:=zpj 124 zgk znz zta e hf s hs
 obtain⟨b,hb⟩:∃b,mtS zgk e s=b:=⟨_,rfl⟩
 rw[hb]at hm⊢
 obtain⟨op,mn,mx,rs,ks⟩:=e
 rw[z4d]at hm⊢
 refine z0y fun H=>?_
 refine z0g func94 (by kernel_rfl) rfl (by simp) ?_
 dsimp only[f94]
 repeat' first|(apply z05;first|refine z0n ?_| (apply z0a;refine z02 z1r rfl rfl ?_)|(apply z0j;refine z29 hm ?_)|(apply z18;refine z0b z1m ?_))|(apply z06;first|refine z0m ?_|apply z09)|(apply z07;first|apply z08|apply z00)
 all_goals exact z0e func94 _ z0p ⟨rfl,rfl⟩
abbrev Uq:=Int × Int × Int × Bool
abbrev uqc(u:Uq):List D:=[zbg u.1,z2g u.2.1,z2g u.2.2.1,zji u.2.2.2]
def uQ:Nat→List U→List Uq
 | _,[]=>[]
 | i,u::l=>(u.r,(i:Int),(u.n:Int),false)::uQ (i+u.n) l
def okf(u:Uq):Uq:=(u.1,u.2.1,u.2.2.1,!decide (u.1=65533)||decide (u.2.2.1=3))
theorem zvx:∀(l:List U) (i:Nat),((uQ i l).map okf).all (fun u=>u.2.2.2)=l.all y3j
 | [],i=>rfl
 | u::l,i=>by
  rw[uQ,List.map_cons,List.all_cons,List.all_cons,zvx l]
  congr 1
  simp only[okf,y3j]
  congr 1
  rw[decide_eq_decide];omega
theorem zsa:∀(l:List U) (i:Nat),(uQ i l).length=l.length
 | [],i=>rfl
 | u::l,i=>by rw[uQ,zAk,zAk,zsa l]
def inv1(s:ByteArray)(q:Nat)(l:List Uq):Prop:=(l=[]∧q=0)∨(∃P r a,l=P++[(r,a,0,false)]∧0≤a∧a≤(q:Int)∧P.length<q∧P++(r,a,(q:Int)-a,false)::uQ q (rst s q)=uQ 0 (rst s 0))
theorem zs1(s:ByteArray)(hs:s.size≤1000000):z0q prog 104 [S s] (.d (.slice (((uQ 0 (rst s 0)).map okf).map uqc))):=by
 refine z0y fun H=>?_
 refine z0g func104 (by kernel_rfl) rfl (by simp) ?_
 dsimp only[f104]
 repeat' first|(apply z05;first|refine z0n ?_| refine zaj rfl rfl rfl (by decide) ?_)|(apply z06;first|refine z0m ?_|apply z09)|(apply z07;first|apply z08|apply z00|apply z01)
 all_goals try omega
 refine z6n 3 1000 137 4 rfl rfl rfl ?_
 refine z0r ?_
 refine z0d (z1o (fun q:Nat × List Uq=>⟨81,[(0,S s),(3,.ref (0,1000)),(8,.ptr (0,8) 0)],[(8,.siter s q.1),(1000,.row 137 4 (q.2.map uqc))],H⟩) (fun q=>q.1≤s.size∧inv1 s q.1 q.2) (fun q=>s.size-q.1) ?_ (0,[]) ⟨zAf _,.inl ⟨rfl,rfl⟩⟩) rfl rfl
 rintro⟨q,l⟩ ⟨i1,i2⟩ ih
 simp only at i1 i2 ih⊢
 by_cases hlt:q<s.size
 ·have hd:=z9y hlt
  have hw:=zcv s q hlt
  have hdh:=zrb s q
  rcases i2 with⟨rfl,rfl⟩|⟨P,r,a,rfl,a0,a1,hpl,heq⟩
  ·have ih':=ih (0+(Utf8.decode s 0).2,([((((Utf8.decode s 0).1:Nat):Int),((0:Nat):Int),(0:Int),false)]:List Uq)) ⟨by simp only;omega,.inr ⟨[],_,_,rfl,by simp,by simp only;omega,by simp only[List.length_nil];omega,by
    simp only
    rw[hd,uQ,List.nil_append]
    congr 2
    simp⟩⟩ (by simp only;omega)
   repeat' first|(apply z05;first|refine z0n ?_| (apply z0s;first|refine z7l (g:=uqc) rfl rfl (((((Utf8.decode s 0).1:Nat):Int),((0:Nat):Int),(0:Int),false):Uq) rfl rfl rfl rfl rfl rfl rfl (by decide) (by simp) ?_|refine z02 (z6g rfl) rfl rfl ?_)|(apply z1n;refine z2y ?_)|(apply z3c;refine z3b rfl ?_)|refine z3e hlt rfl rfl (by decide) ?_)|(apply z06;first|refine z0m ?_|apply z09)|(apply z07;first|apply z08|apply z00|refine z1j ?_| refine z15 ?_| apply z04|apply z01|apply z03)
   all_goals try (exfalso;simp at *;done)
   all_goals refine z4n 36 1000 rfl rfl ?_
   all_goals exact z0d ih' rfl rfl
  ·have hix:(P++[(r,a,(0:Int),false)])[((((((P++[(r,a,(0:Int),false)]).map uqc).length:Nat):Int)-1)).toNat]? =some ((r,a,0,false):Uq):=by
    exact zD47
   have hse:(P++[(r,a,(0:Int),false)]).set ((((((P++[(r,a,(0:Int),false)]).map uqc).length:Nat):Int)-1)).toNat ((r,a,(q:Int)-a,false):Uq)=P++[(r,a,(q:Int)-a,false)]:=by
    exact zD47
   have hln:((P++[(r,a,(0:Int),false)]).map uqc).length=P.length+1:=by simp
   have hln2:(P++[(r,a,(q:Int)-a,false)]).length=P.length+1:=by simp
   have ih':=ih (q+(Utf8.decode s q).2,(P++[(r,a,(q:Int)-a,false)])++([((((Utf8.decode s q).1:Nat):Int),((q:Nat):Int),(0:Int),false)]:List Uq)) ⟨by simp only;omega,.inr ⟨P++[(r,a,(q:Int)-a,false)],_,_,rfl,by simp,by simp only;omega,by simp only[zAa,zAn];omega,by
    simp only
    rw[hd,uQ]at heq
    rw[←heq,zAl,List.singleton_append,show(((q+(Utf8.decode s q).2:Nat):Int)-(q:Nat))=((Utf8.decode s q).2:Nat) by omega]⟩⟩ (by simp only;omega)
   repeat' first|(apply z05;first|refine z0n ?_| (apply z0a;refine z02 (z23 (u:=z2g a) hix rfl rfl rfl) rfl rfl ?_)|(apply z0c;refine z02 (z4k rfl rfl) rfl rfl ?_)|(apply z0k;refine z02 (z7h rfl (by omega) (by omega) rfl) rfl rfl ?_)|(apply z0t;refine z02 (z2l z1h) rfl rfl ?_)|(apply z0s;first|refine z99 (g:=uqc) (((((Utf8.decode s q).1:Nat):Int),((q:Nat):Int),(0:Int),false):Uq) rfl ?_| refine z02 (z6g rfl) rfl rfl ?_)|(apply z0f;refine z22 ((r,a,(q:Int)-a,false):Uq) rfl rfl rfl rfl hix rfl rfl rfl hse ?_)|(apply z1n;refine z2y ?_)|(apply z3c;refine z3b rfl ?_)|refine z3e hlt rfl rfl (by decide) ?_)|(apply z06;first|refine z0m ?_|apply z09)|(apply z07;first|apply z08|apply z00|refine z1j ?_| apply z04|apply z01|apply z03|refine z0h (fun _=>?_) fun _=>?_)
   all_goals try omega
   all_goals refine z4n 36 1000 rfl rfl ?_
   all_goals exact z0d ih' rfl rfl
 ·obtain rfl:q=s.size:=by omega
  have hd:=z68 (s:=s) (i:=s.size) (zAj _)
  obtain⟨L,hL⟩:∃L,uQ 0 (rst s 0)=L:=⟨_,rfl⟩
  have hLl:L.length≤s.size:=by
   rw[←hL,zsa]
   have:=zgr s s.size 0 (by omega)
   omega
  rw[hL]
  rcases i2 with⟨rfl,h0⟩|⟨P,r,a,rfl,a0,a1,hpl,heq⟩
  ·have hLn:L=[]:=by rw[←hL,z68 (by omega)];rfl
   repeat' first|(apply z05;first|refine z0n ?_| (apply z0s;refine z02 (z6g rfl) rfl rfl ?_)|refine z3f hlt rfl rfl (by decide) ?_)|(apply z06;first|refine z0m ?_|apply z09)|(apply z07;first|apply z08|apply z00|refine z15 ?_| apply z04|apply z01|refine z0o ?_)
   all_goals try (exfalso;simp at *;done)
   refine z0r ?_
   refine z0d (z1o (fun k:Nat=>⟨81,[(3,.ref (0,1000)),(57,I .i64 L.length),(58,I .i64 (k:Nat))],[(1000,.row 137 4 (((L.take k).map okf++L.drop k).map uqc))],H⟩) (fun k=>k≤L.length) (fun k=>L.length-k) ?_ 0 (zAf _)) (by rw[hLn];rfl) (by rw[hLn];rfl)
   exact zD3
  ·rw[hd,uQ,hL]at heq
   have hix:(P++[(r,a,(0:Int),false)])[((((((P++[(r,a,(0:Int),false)]).map uqc).length:Nat):Int)-1)).toNat]? =some ((r,a,0,false):Uq):=by
    exact zD47
   have hse:(P++[(r,a,(0:Int),false)]).set ((((((P++[(r,a,(0:Int),false)]).map uqc).length:Nat):Int)-1)).toNat ((r,a,(s.size:Int)-a,false):Uq)=P++[(r,a,(s.size:Int)-a,false)]:=by
    exact zD47
   rw[heq]at hse
   have hln:((P++[(r,a,(0:Int),false)]).map uqc).length=P.length+1:=by simp
   repeat' first|(apply z05;first|refine z0n ?_| (apply z0a;refine z02 (z23 (u:=z2g a) hix rfl rfl rfl) rfl rfl ?_)|(apply z0c;refine z02 (z4k rfl rfl) rfl rfl ?_)|(apply z0k;refine z02 (z7h rfl (by omega) (by omega) rfl) rfl rfl ?_)|(apply z0t;refine z02 (z2l z1h) rfl rfl ?_)|(apply z0s;first|refine z02 (z6g rfl) rfl rfl ?_| refine z02 (z63 rfl) rfl rfl ?_)|(apply z0f;refine z22 ((r,a,(s.size:Int)-a,false):Uq) rfl rfl rfl rfl hix rfl rfl rfl hse ?_)|refine z3f hlt rfl rfl (by decide) ?_)|(apply z06;first|refine z0m ?_|apply z09)|(apply z07;first|apply z08|apply z00|refine z15 ?_| apply z04|apply z01|refine z0h (fun _=>?_) (fun _=>?_)| refine z0o ?_)
   all_goals try omega
   refine z0r ?_
   refine z0d (z1o (fun k:Nat=>⟨81,[(3,.ref (0,1000)),(57,I .i64 L.length),(58,I .i64 (k:Nat))],[(1000,.row 137 4 (((L.take k).map okf++L.drop k).map uqc))],H⟩) (fun k=>k≤L.length) (fun k=>L.length-k) ?_ 0 (zAf _)) (by rw[show(L.length:Int)=(((L.map uqc).length:Nat):Int) by rw[zA4]];rfl) rfl
   exact zD3
theorem ztg(s:ByteArray)(hs:s.size≤1000000):z0q prog 160 [S s] (B (zwl s)):=by
 refine z0y fun H=>?_
 have hu:=zs1 s hs
 have hall:=zvx (rst s 0) 0
 change _=zwl s at hall
 have hlen:((uQ 0 (rst s 0)).map okf).length≤s.size:=by
  rw[zA4,zsa]
  have:=zgr s s.size 0 (by omega)
  omega
 generalize (uQ 0 (rst s 0)).map okf=L at *
 rw[←hall]
 refine z0g func160 (by kernel_rfl) rfl (by simp) ?_
 dsimp only[f160]
 repeat' first|(apply z05;first|refine z0n ?_| (apply z0s;refine z02 (z0w rfl) rfl rfl ?_)|(apply z0j;refine z29 hu ?_))|(apply z06;first|refine z0m ?_|apply z09)|(apply z07;first|apply z08|apply z00|apply z01)
 all_goals try omega
 refine z0r ?_
 refine z0d (z1o (fun q:Nat=>⟨16,[(6,.d (.slice (L.map uqc))),(7,I .i64 L.length),(8,I .i64 (q:Nat))],[],H⟩) (fun q=>q≤L.length∧(L.drop q).all (fun u=>u.2.2.2)=L.all fun u=>u.2.2.2) (fun q=>L.length-q) ?_ 0 ⟨zAf _,rfl⟩) rfl rfl
 rintro i ⟨i1,i2⟩ ihl
 by_cases hlt:i<L.length
 ·obtain⟨u,hui⟩:∃u,L[i]? =some u:=⟨_,zA0 hlt⟩
  rw[drop_cons hui,List.all_cons]at i2
  have hx:(L.map uqc)[((i:Nat):Int).toNat]? =some (uqc u):=by simp[hui]
  obtain⟨u1,u2,u3,u4⟩:=u
  simp only at i2
  cases u4 with
  | true =>
   rw[Bool.true_and]at i2
   repeat' first|(apply z05;first|refine z0n ?_| (apply z0a;first|refine z02 z16 rfl rfl ?_| refine z02 z1w rfl rfl ?_)|(apply z0c;refine z02 z0i rfl rfl ?_)|(apply z0k;refine z02 (z1a (ys:=L.map uqc) rfl hx) rfl rfl ?_)|(apply z0t;refine z02 (z0z z1h) rfl rfl ?_)|(apply z0f;refine z25 ?_)|(apply z0l;refine z0b z2e ?_))|(apply z06;first|refine z0m ?_|apply z09)|(apply z07;first|apply z08|apply z00|refine z15 ?_| apply z04|apply z01|apply z03|refine z0h (fun _=>?_) (fun _=>?_)| refine z0o ?_)
   all_goals try omega
   all_goals exact z0d (ihl (i+1) ⟨by omega,i2⟩ (by omega)) rfl rfl
  | false =>
   rw[Bool.false_and]at i2
   rw[←i2]
   repeat' first|(apply z05;first|refine z0n ?_| (apply z0a;first|refine z02 z16 rfl rfl ?_| refine z02 z1w rfl rfl ?_)|(apply z0c;refine z02 z0i rfl rfl ?_)|(apply z0k;refine z02 (z1a (ys:=L.map uqc) rfl hx) rfl rfl ?_)|(apply z0f;refine z25 ?_)|(apply z0l;refine z0b z2e ?_))|(apply z06;first|refine z0m ?_|apply z09)|(apply z07;first|apply z08|apply z00|refine z1j ?_| apply z04|apply z01|refine z0h (fun _=>?_) (fun _=>?_)| refine z0o ?_)
   all_goals try omega
   all_goals exact z0e func160 _ z0p ⟨rfl,rfl⟩
 ·obtain rfl:i=L.length:=by omega
  rw[zAs]at i2
  rw[←i2]
  repeat' first|(apply z05;refine z0n ?_)|(apply z06;first|refine z0m ?_|apply z09)|(apply z07;first|apply z08|apply z00|apply z04|apply z01|refine z0h (fun _=>?_) (fun _=>?_)| refine z0o ?_)
  all_goals try omega
  all_goals exact z0e func160 _ z0p ⟨rfl,rfl⟩
end Go.Proofs.YtonhfccmeammbaaGreatDoor
