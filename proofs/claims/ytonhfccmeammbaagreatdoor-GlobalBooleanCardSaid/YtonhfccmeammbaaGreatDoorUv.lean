/- A part of the proof: G29 to G31. -/
import Derived.Test.YtonhfccmeammbaaGreatDoorUq
import Derived.Test.YtonhfccmeammbaaGreatDoorUr
import Derived.Test.YtonhfccmeammbaaGreatDoorUp
import Derived.Test.YtonhfccmeammbaaGreatDoorUx
set_option linter.all false
namespace Go.Proofs.YtonhfccmeammbaaGreatDoor
open Go.Ab Go.Rx
set_option maxHeartbeats 20000000
set_option maxRecDepth 100000
attribute [local irreducible] Run Ops Op1 z1x Val Tr z0m z1r NF Rel z83 z7w zhx
mutual
theorem zj0:∀ e:Rx,fit e→zwe (fun l=>l.length≤9223372036854775807) e
 | .mk op mn mx rs ks,h=>by rw[fit] at h;rw[zwe];exact⟨h.1,zgi ks h.2.2⟩
theorem zgi:∀ ks:List Rx,znx ks→zh1 (fun l=>l.length≤9223372036854775807) ks
 | [],_=>by rw[zh1];trivial
 | k::ks,h=>by rw[znx] at h;rw[zh1];exact⟨zj0 k h.1,zgi ks h.2⟩
end
theorem ztp (l:List Rg) (c:Int):inB l c=inR l c:=rfl
abbrev zg4 (x:Int):List D:=[zx2 x]
theorem zqy:∀ (l:List U) (i:Nat),(unF i l).all okU=l.all zxr
 | [],i=>rfl
 | u::l,i=>by
  rw[unF,List.all_cons,List.all_cons,zqy l]
  congr 1
  simp only[okU,zxr]
  congr 1
  rw[decide_eq_decide];omega
theorem zqb (S:Nat):∀ (l:List Nat) (i acc:Nat),acc<2 ^ 64→(∀ x∈l,x<2 ^ 64)→nxF S i acc l<2 ^ 64
 | [],i,acc,h,_=>h
 | x::l,i,acc,h,hl=>by
  rw[nxF]
  refine zqb S l _ _ ?_ (fun y hy=>hl y (by simp[hy]))
  split
  · exact Nat.or_lt_two_pow h (hl x (by simp))
  · exact h
theorem zut {e:Rx} (h:val e=0):Rx.pn e≤64:=by
 rw[val] at h
 split at h
 · simp at h
 split at h
 · simp at h
 split at h
 · simp at h
 · omega
theorem zmj (g:FuncId) (vs:Int→List Int) (hvs:∀ c:Int,Utf8.valid c=true→z0m Tryz.prog g [I .i32 c] (.d (.slice ((vs c).map zg4)))) (hvl:∀ c,(vs c).length≤3) (e:Rx) (hf:fit e) (s:ByteArray) (hs:s.size≤1000000) :
 z0m Tryz.prog 123 [.d (Drx e),S s,.fn (.func g) [] []] (B (mtS vs e s)):=by
 refine z10 fun H=>?_
 have hval:=zdg e hf
 have hvd:=zrz s hs
 rw[zqy] at hvd
 change z0m Tryz.prog 151 [S s] (B (zx3 s)) at hvd
 have hmt:mtS vs e s=(decide (val e=0)&&zx3 s&&Rx.mt (okV vs) e (zlm s)):=rfl
 obtain⟨res,hres⟩:∃ b,mtS vs e s=b:=⟨_,rfl⟩
 rw[hres] at hmt ⊢
 by_cases h0:val e=0
 · cases h1:zx3 s with
   | false =>
    rw[h1,Bool.and_false,Bool.false_and] at hmt
    rw[h1] at hvd
    rw[h0] at hval
    subst hmt
    obtain⟨op,mn,mx,rs,ks⟩:=e
    rw[z4r] at hval ⊢
    refine z0g Tryz.func123 (by kernel_rfl) rfl (by simp) ?_
    dsimp only[Tryz.f123]
    repeat' (first|(apply z04;(first|refine z0l ?_| (apply z0a;(refine z02 z2c rfl rfl ?_))|(apply z0j;(first|refine z2s hval ?_| refine z2s hvd ?_))|(apply z1c;(refine z0b z1q ?_))))|(apply z05;(first|refine z0k ?_|apply z09))|(apply z06;(first|apply z07|apply z00|refine z1b rfl ?_)))
    all_goals exact zD43
   | true =>
    rw[h1,h0,zAi rfl,Bool.true_and,Bool.true_and] at hmt
    rw[h1] at hvd
    have hvn:=zt6 h0
    have hpn:=zut h0
    have hof:=zzc e hvn hf hpn
    have hbl:=(zuc hvn).bl tb0 rfl
    have hfw:=(zuc hvn).few tb0 rfl
    have hlv:=zyk.1 e (zj0 e hf) tb0 (by simp)
    rw[h0] at hval
    dsimp only[ofB] at hof
    rw[Rx.mt] at hmt
    change res=mtF (okV vs) (bd e tb0).1 (bd e tb0).2 (zlm s) at hmt
    generalize hB:bd e tb0=r1 at *
    obtain⟨t1,p⟩:=r1
    have hfw2:(t1.lv.length:Int)≤Rx.pn e:=by simpa using hfw
    obtain⟨s2,pf,pl⟩:=hbl.sm ⟨rfl,by simp⟩ (by show t1.lv.length≤64;omega)
    obtain⟨lv,fo⟩:=t1
    have hl64:lv.length≤64:=by
     have:lv.length=(⟨lv,fo⟩:Tb).lv.length:=rfl
     omega
    have hfo:fo.length=lv.length:=s2.len
    have hfx:∀ x∈fo,x<2 ^ 64:=s2.sm
    simp only at hlv pf pl hmt hof
    obtain⟨op,mn,mx,rs,ks⟩:=e
    rw[z4r] at hval hof ⊢
    refine z0g Tryz.func123 (by kernel_rfl) rfl (by simp) ?_
    dsimp only[Tryz.f123]
    repeat' (first | (apply z04; (first | refine z0l ?_| (apply z0a; (refine z02 z2c rfl rfl ?_)) | (apply z0j; (first | refine z2s hval ?_| refine z2s hvd ?_| (refine zlh rfl (hof _) (by decide) rfl (fun r H' h => ⟨_, h.1, h.2, rfl, rfl, ?_⟩)) /- zcd -/)) | (apply z1c; (refine z0b z1q ?_)) | refine zc6 rfl rfl rfl (by decide) ?_)) | (apply z05; (first | refine z0k ?_ | apply z09)) | (apply z06; (first | apply z07 | apply z00 | refine z1f ?_| apply z08 | apply z01)))
    all_goals try (exfalso;omega)
    refine z0t ?_
    refine z0e (z1v (fun q:Nat × Nat × Bool=>⟨88,[(2,.fn (.func g) [] []),(7,.ptr (0,26) 0),(8,I .u64 (q.2.1:Nat)),(9,B q.2.2),(28,.ptr (0,28) 0)],[(26,tbx lv p.f p.l fo p.nu),(28,.siter s q.1)],H⟩)
     (fun q=>q.1≤s.size∧q.2.1<2 ^ 64∧((q.2.2=true∧q.1=0∧q.2.1=0)∨(q.2.2=false∧zug (okV vs) ⟨lv,fo⟩ p.l q.2.1 ((rst s q.1).map (·.r))=res))) (fun q=>s.size-q.1) ?_ (0,0,true) ⟨zAf _,by decide,.inl ⟨rfl,rfl,rfl⟩⟩) rfl rfl
    rintro⟨q,S,beg⟩ ⟨i1,i2,i3⟩ ih
    simp only at i1 i2 i3 ih ⊢
    by_cases hlt:q<s.size
    · have hd:=zbn hlt
      have hw:=ze3 s q hlt
      have hcv:=zf5 s q hlt
      have hvc:=hvs _ hcv
      have hvl2:=hvl ((Utf8.decode s q).1:Nat)
      have hnx:=zpo (X:=26) lv p.f p.l fo p.nu S i2 (by omega) hfx beg 0
      obtain⟨N,hN⟩:∃ N,(if beg=true then p.f else nxF S 0 0 fo)=N:=⟨_,rfl⟩
      have hNl:N<2 ^ 64:=by
       rw[← hN]
       split
       · exact pf
       · exact zqb S fo 0 0 (by decide) hfx
      rw[hN] at hnx
      obtain⟨c,hc⟩:∃ c,((Utf8.decode s q).1:Int)=c:=⟨_,rfl⟩
      obtain⟨vl,hvle⟩:∃ vl,vs ((Utf8.decode s q).1:Nat)=vl:=⟨_,rfl⟩
      rw[hvle] at hvc hvl2
      obtain⟨S',hS'⟩:∃ S',rdF (okV vs) c N 0 0 lv=S':=⟨_,rfl⟩
      have key:(S'=0→res=false)∧(S'≠0→zug (okV vs) ⟨lv,fo⟩ p.l S' ((rst s (q+(Utf8.decode s q).2)).map (·.r))=res):=by
       rcases i3 with ⟨rfl,rfl,rfl⟩|⟨rfl,i3⟩
       · rw[zAy rfl] at hN
         subst hN
         rw[zlm,hd,List.map_cons,mtF] at hmt
         simp only[hc,hS'] at hmt
         constructor
         · intro h;rw[hmt,zAy h]
         · intro h;rw[hmt,zAx h]
       · rw[zAx (by decide)] at hN
         rw[hd,List.map_cons,zug] at i3
         simp only[hc,hN,hS'] at i3
         constructor
         · intro h;rw[← i3,zAy h]
         · intro h;rw[zAx h] at i3;exact i3
      have hS'l:S'<2 ^ 64:=by rw[← hS'];exact zwb _ _ _ hl64 (by decide)
      have hrv:=zuk vs c N lv
      rw[hS',← hc,hvle] at hrv
      have hdl:∀ v:Int,∀ l:List Rg,l.length≤9223372036854775807→z0m Tryz.prog 154 [.d (rgs l),I .i32 v] (B (inB l v)):=fun v l h=>zjv l h v
      repeat' (first | (apply z04; (first | refine z0l ?_| (apply z0x; (refine z02 (z0y rfl) rfl rfl ?_)) | (apply z0j; (first | refine z8j hnx rfl rfl (by decide) ?_ | (refine zr2 [] [] [I .i32 ((Utf8.decode s q).1 : Int)] (hvc.at _) rfl rfl (by decide) ?_) /- zcd -/)) | refine z3z hlt rfl rfl (by decide) ?_)) | (apply z05; (first | refine z0k ?_ | apply z09)) | (apply z06; (first | apply z07 | apply z00 | refine z1b rfl ?_ | apply z08 | apply z01)))
      all_goals try (exfalso;omega)
      refine z0t ?_
      refine z0e (z1v (fun j:Nat × Nat=>⟨88,[(2,.fn (.func g) [] []),(7,.ptr (0,26) 0),(8,I .u64 (j.2:Nat)),(9,B false),(12,I .u64 (N:Nat)),(28,.ptr (0,28) 0),(38,.d (.slice (vl.map zg4))),(39,I .i64 vl.length),(40,I .i64 (j.1:Nat))],[(26,tbx lv p.f p.l fo p.nu),(28,.siter s (q+(Utf8.decode s q).2))],H⟩)
       (fun j=>j.1≤vl.length∧j.2<2 ^ 64∧rdV N lv (vl.drop j.1) j.2=S') (fun j=>vl.length-j.1) ?_ (0,0) ⟨zAf _,by decide,hrv⟩) rfl rfl
      rintro⟨j,A⟩ ⟨m1,m2,m3⟩ ihm
      simp only at m1 m2 m3 ihm ⊢
      by_cases hj:j<vl.length
      · obtain⟨v,hv⟩:∃ v,vl[j]? =some v:=⟨_,zA0 hj⟩
        rw[drop_cons hv,rdV] at m3
        obtain⟨A',hA'⟩:∃ A',rdF (fun c l=>inR l c) v N 0 A lv=A':=⟨_,rfl⟩
        rw[hA'] at m3
        have hvi:(vl.map zg4)[((j:Nat):Int).toNat]? =some (zg4 v):=by simp[hv]
        repeat' (first|(apply z04;(first|refine z0l ?_| (apply z0a;(first|refine z02 z18 rfl rfl ?_| refine z02 z2p rfl rfl ?_))|(apply z0d;(refine z02 z1a rfl rfl ?_))|(apply z0n;(refine z02 (z1o (ys:=vl.map zg4) rfl hvi) rfl rfl ?_))|(apply z0x;(refine z02 (z0y rfl) rfl rfl ?_))))|(apply z05;(first|refine z0k ?_|apply z09))|(apply z06;(first|apply z07|apply z00|apply z08|apply z01|apply z03|refine z0h (fun _=>?_) (fun _=>?_)| refine z0o ?_)))
        all_goals try (exfalso;omega)
        refine z0t ?_
        refine z0e (z1v (fun k:Nat × Nat=>⟨88,[(2,.fn (.func g) [] []),(7,.ptr (0,26) 0),(8,I .u64 (k.2:Nat)),(9,B false),(12,I .u64 (N:Nat)),(14,I .i32 v),(28,.ptr (0,28) 0),(38,.d (.slice (vl.map zg4))),(39,I .i64 vl.length),(40,I .i64 (j:Nat)),(47,.d (lvs lv)),(48,I .i64 lv.length),(49,I .i64 (k.1:Nat))],[(26,tbx lv p.f p.l fo p.nu),(28,.siter s (q+(Utf8.decode s q).2))],H⟩)
         (fun k=>k.1≤lv.length∧k.2<2 ^ 64∧rdF (fun c l=>inR l c) v N k.1 k.2 (lv.drop k.1)=A') (fun k=>lv.length-k.1) ?_ (0,A) ⟨zAf _,m2,hA'⟩) rfl rfl
        rintro⟨k,B'⟩ ⟨n1,n2,n3⟩ ihn
        simp only at n1 n2 n3 ihn ⊢
        by_cases hk:k<lv.length
        · obtain⟨l,hl⟩:∃ l,lv[k]? =some l:=⟨_,zA0 hk⟩
          have hlm:=hlv l (zA2 hl)
          have hcl:=hdl v l hlm
          have hli:(lv.map fun r=>[rgs r])[((k:Nat):Int).toNat]? =some [rgs l]:=by simp[hl]
          rw[znj _ _ _ hl] at n3
          have hbt:=zty (S:=N) (i:=k) hNl (by omega)
          have hsh:=zv3 (i:=k) (by omega)
          have hp2:2 ^ k<2 ^ 64:=Nat.pow_lt_pow_right (by decide) (by omega)
          have hor:=zrn n2 hp2
          rw[← hsh] at hor
          rw[ztp] at hcl
          by_cases htb:N.testBit k=true
          · rw[zAy htb] at hbt
            cases hin:inR l v with
            | true =>
             rw[zAy ⟨htb,hin⟩] at n3
             rw[hin] at hcl
             have ihn':=ihn (k+1,B' ||| 2 ^ k) ⟨by simp only;omega,Nat.or_lt_two_pow n2 hp2,n3⟩ (by simp only;omega)
             dsimp only at ihn'
             rw[← hor] at ihn'
             repeat' (first|(apply z04;(first|refine z0l ?_| (apply z0a;(refine z02 z2p rfl rfl ?_))|(apply z0n;(refine z02 (z1o (ys:=lv.map fun r=>[rgs r]) rfl hli) rfl rfl ?_))|(apply z0z;(first|refine z02 (zhj (by omega)) rfl rfl ?_| refine z02 (zr8 (by omega)) rfl rfl ?_| refine z02 z9m rfl rfl ?_| refine z02 zck rfl rfl ?_| refine z02 (z14 z1p) rfl rfl ?_))|(apply z0j;(refine z2s hcl ?_))))|(apply z05;(first|refine z0k ?_|apply z09|refine z1m ?_| refine z1t (fun _=>?_) (fun _=>?_)))|(apply z06;(first|apply z07|apply z00|refine z1b rfl ?_|refine z1f ?_| apply z08|apply z01|apply z03|refine z0h (fun _=>?_) (fun _=>?_)| refine z0o ?_)))
             all_goals exact zD62
            | false =>
             rw[zAx (fun h=>by rw[hin] at h;cases h.2)] at n3
             rw[hin] at hcl
             have ihn':=ihn (k+1,B') ⟨by simp only;omega,n2,n3⟩ (by simp only;omega)
             repeat' (first|(apply z04;(first|refine z0l ?_| (apply z0a;(refine z02 z2p rfl rfl ?_))|(apply z0n;(refine z02 (z1o (ys:=lv.map fun r=>[rgs r]) rfl hli) rfl rfl ?_))|(apply z0z;(first|refine z02 (zhj (by omega)) rfl rfl ?_| refine z02 z9m rfl rfl ?_| refine z02 (z14 z1p) rfl rfl ?_))|(apply z0j;(refine z2s hcl ?_))))|(apply z05;(first|refine z0k ?_|apply z09|refine z1m ?_| refine z1t (fun _=>?_) (fun _=>?_)))|(apply z06;(first|apply z07|apply z00|refine z1f ?_| apply z08|apply z01|apply z03|refine z0h (fun _=>?_) (fun _=>?_)| refine z0o ?_)))
             all_goals exact zD62
          · rw[zAx htb] at hbt
            rw[zAx (fun h=>htb h.1)] at n3
            have ihn':=ihn (k+1,B') ⟨by simp only;omega,n2,n3⟩ (by simp only;omega)
            repeat' (first|(apply z04;(first|refine z0l ?_| (apply z0a;(refine z02 z2p rfl rfl ?_))|(apply z0n;(refine z02 (z1o (ys:=lv.map fun r=>[rgs r]) rfl hli) rfl rfl ?_))|(apply z0z;(first|refine z02 (zhj (by omega)) rfl rfl ?_| refine z02 (zr8 (by omega)) rfl rfl ?_| refine z02 z9m rfl rfl ?_| refine z02 zck rfl rfl ?_| refine z02 (z14 z1p) rfl rfl ?_))|(apply z0j;(refine z2s hcl ?_))))|(apply z05;(first|refine z0k ?_|apply z09|refine z1m ?_| refine z1t (fun _=>?_) (fun _=>?_)))|(apply z06;(first|apply z07|apply z00|refine z1f ?_| apply z08|apply z01|apply z03|refine z0h (fun _=>?_) (fun _=>?_)| refine z2i rfl (fun _=>?_) (fun _=>?_)|refine z0o ?_)))
            all_goals exact zD62
        · obtain rfl:k=lv.length:=by omega
          rw[zAr,rdF] at n3
          subst n3
          have ihm':=ihm (j+1,B') ⟨by simp only;omega,n2,m3⟩ (by simp only;omega)
          repeat' (first|(apply z04;(first|refine z0l ?_| (apply z0z;(refine z02 (z14 z1p) rfl rfl ?_))))|(apply z05;(first|refine z0k ?_|apply z09))|(apply z06;(first|apply z07|apply z00|apply z08|apply z01|apply z03|refine z0h (fun _=>?_) (fun _=>?_)| refine z0o ?_)))
          all_goals try (exfalso;omega)
          all_goals exact z0e ihm' rfl rfl
      · obtain rfl:j=vl.length:=by omega
        rw[zAr,rdV] at m3
        subst m3
        by_cases hA:A=0
        · subst hA
          have hr:=key.1 rfl
          subst hr
          repeat' (first|(apply z04;(refine z0l ?_))|(apply z05;(first|refine z0k ?_|apply z09))|(apply z06;(first|apply z07|apply z00|refine z1b rfl ?_|apply z08|apply z01|refine z0h (fun _=>?_) (fun _=>?_)| refine z0o ?_)))
          all_goals exact zD43
        · have hr:=key.2 hA
          have ih':=ih (q+(Utf8.decode s q).2,A,false) ⟨by simp only;omega,m2,.inr ⟨rfl,hr⟩⟩ (by simp only;omega)
          repeat' (first|(apply z04;(refine z0l ?_))|(apply z05;(first|refine z0k ?_|apply z09))|(apply z06;(first|apply z07|apply z00|apply z08|apply z01|apply z03|refine z0h (fun _=>?_) (fun _=>?_)| refine z0o ?_)))
          all_goals exact zD30
    · obtain rfl:q=s.size:=by omega
      have hd:=z7j (s:=s) (i:=s.size) (zAj _)
      rcases i3 with ⟨rfl,h0q,rfl⟩|⟨rfl,i3⟩
      · have hz:rst s 0=[]:=z7j (by omega)
        rw[zlm,hz,List.map_nil,mtF] at hmt
        subst hmt
        cases hnu:p.nu with
        | true =>
         repeat' (first|(apply z04;(first|refine z0l ?_| (apply z0a;(refine z02 z18 rfl rfl ?_))|(apply z0d;(refine z02 z1a rfl rfl ?_))|refine z3w hlt rfl rfl (by decide) ?_))|(apply z05;(first|refine z0k ?_|apply z09|refine z1m ?_))|(apply z06;(first|apply z07|apply z00|refine z1f ?_| refine z0o ?_)))
         all_goals exact zD43
        | false =>
         have ha:=zth (a:=0) (b:=p.l) (by decide) pl
         rw[Nat.zero_and] at ha
         have hfin:(!decide (ztd .u64 ((0:Nat):Int) (p.l:Nat)=0))=false:=by rw[ha];rfl
         repeat' (first|(apply z04;(first|refine z0l ?_| (apply z0a;(refine z02 z18 rfl rfl ?_))|(apply z0d;(refine z02 z1a rfl rfl ?_))|(apply z0z;(refine z02 z9m rfl rfl ?_))|refine z3w hlt rfl rfl (by decide) ?_))|(apply z05;(first|refine z0k ?_|apply z09))|(apply z06;(first|apply z07|apply z00|refine z1f ?_| refine z0o ?_)))
         all_goals exact zD70
      · rw[hd,List.map_nil,zug] at i3
        have ha:=zth i2 pl
        have hfin:(!decide (ztd .u64 (S:Nat) (p.l:Nat)=0))=res:=by
         rw[ha,← i3,← decide_not,decide_eq_decide];omega
        repeat' (first|(apply z04;(first|refine z0l ?_| (apply z0a;(refine z02 z18 rfl rfl ?_))|(apply z0d;(refine z02 z1a rfl rfl ?_))|(apply z0z;(refine z02 z9m rfl rfl ?_))|refine z3w hlt rfl rfl (by decide) ?_))|(apply z05;(first|refine z0k ?_|apply z09|refine z1m ?_))|(apply z06;(first|apply z07|apply z00|refine z1f ?_| refine z0o ?_)))
        all_goals exact zD70
 · have hne:(decide (val e=0))=false:=zAn h0
   rw[hne,Bool.false_and,Bool.false_and] at hmt
   subst hmt
   obtain⟨op,mn,mx,rs,ks⟩:=e
   rw[z4r] at hval ⊢
   refine z0g Tryz.func123 (by kernel_rfl) rfl (by simp) ?_
   dsimp only[Tryz.f123]
   repeat' (first|(apply z04;(first|refine z0l ?_| (apply z0a;(refine z02 z2c rfl rfl ?_))|(apply z0j;(first|refine z2s hval ?_| refine z2s hvd ?_))|(apply z1c;(refine z0b z1q ?_))))|(apply z05;(first|refine z0k ?_|apply z09|refine z1m ?_| refine z3v rfl rfl (fun _=>?_) (fun _=>?_)))|(apply z06;(first|apply z07|apply z00|refine z1b rfl ?_|apply z08|refine z2i rfl (fun _=>?_) (fun _=>?_))))
   all_goals exact zD43
theorem zwi (c:Int):z0m Tryz.prog 125 [I .i32 c] (.d (.slice (([c]:List Int).map zg4))):=by
 refine z10 fun H=>?_
 refine z0g Tryz.func125 (by kernel_rfl) rfl (by simp) ?_
 dsimp only[Tryz.f125]
 repeat' (first|(apply z04;(first|refine z0l ?_| (apply z3t;(refine z3s rfl ?_))))|(apply z05;(first|refine z0k ?_|apply z09))|(apply z06;(first|apply z07|apply z00)))
 all_goals exact z0c Tryz.func125 _ z1j ⟨rfl,rfl⟩
theorem zjc (v:Int):(Utf8.encode v).size≤4:=by
 have:=z5y (Utf8.encode v)
 rw[z8o] at this
 have h4:(ecL (zgl v)).length≤4:=by
  unfold ecL
  repeat' split
  all_goals simp
 omega
theorem zrw {t:ByteArray} {u:U} (h:rst t 0=[u]):0<t.size∧((Utf8.decode t 0).1:Int)=u.r∧(Utf8.decode t 0).2=t.size:=by
 have h0:0<t.size:=by
  false_or_by_contra
  rw[z7j (by omega)] at h;simp at h
 rw[zbn h0] at h
 simp only[List.cons.injEq] at h
 obtain⟨rfl,h2⟩:=h
 have hw:=ze3 t 0 h0
 rw[zsd (by omega)] at h2
 exact⟨h0,rfl,by omega⟩
def C3 (x:Int):List Int:=[x,x-32,x-80]
theorem zjp (c:Int) (hc:Utf8.valid c=true):z0m Tryz.prog 124 [I .i32 c] (.d (.slice ((zl7 c).map zg4))):=by
 refine z10 fun H=>?_
 have hse:=zjc c
 have hfo:=zqo (Utf8.encode c) (by omega)
 have hfe:=zcl hc
 have hvl:=zbo hc
 have hre:=zs4 (z95 c)
 rw[zeq hvl,← hfe] at hre
 obtain⟨t,ht⟩:∃ t,zai (Utf8.encode c)=t:=⟨_,rfl⟩
 have hvar:zl7 c=([z95 c,z95 c-32,z95 c-80]:List Int).filter fun v=>decide (0≤v)&&decide (zai (Utf8.encode v)=t):=by rw[← ht];rfl
 rw[ht] at hfo hre
 obtain⟨d0,d1,d2⟩:=zrw hre
 simp only at d1
 have hvb:=z48.1 hvl
 obtain⟨r,hr⟩:∃ r,z95 c=r:=⟨_,rfl⟩
 rw[hr] at d1 hvb hvar
 have hcs:[r,r-32,r-80]=C3 r:=rfl
 obtain⟨kp,hkp⟩:∃ kp:Int→Bool,(fun v:Int=>decide (0≤v)&&decide (zai (Utf8.encode v)=t))=kp:=⟨_,rfl⟩
 rw[hcs,hkp] at hvar
 refine z0g Tryz.func124 (by kernel_rfl) rfl (by simp) ?_
 dsimp only[Tryz.f124]
 repeat' (first|(apply z04;(first|refine z0l ?_| (apply z0j;(refine z2s hfo ?_))|(apply zc9;(refine z02 (z9q rfl rfl) rfl rfl ?_))|refine zc6 rfl rfl rfl (by decide) ?_))|(apply z05;(first|refine z0k ?_|apply z09))|(apply z06;(first|apply z07|apply z00|apply z01)))
 all_goals try (exfalso;omega)
 refine z7z 3 1000 21 1 rfl rfl rfl ?_
 refine z0t ?_
 refine z0e (z1v (fun q:Nat × List Int=>⟨43,[(3,.ref (0,1000)),(4,S t),(13,.ptr (0,13) 0)],[(13,.siter t q.1),(1000,.row 21 1 (q.2.map zg4))],H⟩)
  (fun q=>(q.1=0∧q.2=[])∨(q.1=t.size∧q.2=zl7 c)) (fun q=>t.size-q.1) ?_ (0,[]) (.inl ⟨rfl,rfl⟩)) rfl rfl
 rintro⟨q,l⟩ i1 ih
 simp only at i1 ih ⊢
 rcases i1 with ⟨rfl,rfl⟩|⟨rfl,rfl⟩
 · repeat' (first|(apply z04;(first|refine z0l ?_| (apply z0z;(refine z02 (z2q (zu7 (by omega) (by omega))) rfl rfl ?_))|(apply z0x;(refine z02 (z7c rfl) rfl rfl ?_))|(apply z3t;(refine z3s rfl ?_))|refine z3z d0 rfl rfl (by decide) ?_))|(apply z05;(first|refine z0k ?_|apply z09))|(apply z06;(first|apply z07|apply z00|refine z1b rfl ?_|apply z08|apply z01)))
   all_goals try (exfalso;omega)
   subst d1
   have hl3:(C3 ((Utf8.decode t 0).1:Nat)).length=3:=rfl
   refine z0t ?_
   refine z0e (z1v (fun k:Nat × List Int=>⟨43,[(3,.ref (0,1000)),(4,S t),(13,.ptr (0,13) 0),(22,.d (.slice ((C3 ((Utf8.decode t 0).1:Nat)).map zg4))),(23,I .i64 3),(24,I .i64 (k.1:Nat))],[(13,.siter t t.size),(1000,.row 21 1 (k.2.map zg4))],H⟩)
    (fun k=>k.1≤3∧k.2=((C3 ((Utf8.decode t 0).1:Nat)).take k.1).filter kp) (fun k=>3-k.1) ?_ (0,[]) ⟨zAf _,rfl⟩) rfl (by rw[Nat.zero_add,d2];rfl)
   rintro⟨k,l⟩ ⟨m1,m2⟩ ihk
   simp only at m1 m2 ihk ⊢
   by_cases hk:k<3
   · obtain⟨v,hv⟩:∃ v,(C3 ((Utf8.decode t 0).1:Nat))[k]? =some v:=⟨_,zA0 (by omega)⟩
     have hvi:((C3 ((Utf8.decode t 0).1:Nat)).map zg4)[((k:Nat):Int).toNat]? =some (zg4 v):=by simp[hv]
     have hve:=zjc v
     have hfv:=zqo (Utf8.encode v) (by omega)
     have hst:=zag hv
     have hkv:kp v=(decide (0≤v)&&decide (zai (Utf8.encode v)=t)):=by rw[← hkp]
     have hll:l.length≤3:=by
      rw[m2]
      have:=List.length_filter_le kp ((C3 ((Utf8.decode t 0).1:Nat)).take k)
      rw[zAm] at this;omega
     cases hkk:kp v with
     | true =>
      rw[hkk] at hkv
      have hkv':=hkv.symm
      rw[zA7,zA3,zA3] at hkv'
      have ihk':=ihk (k+1,l++[v]) ⟨by simp only;omega,by simp only;rw[hst,List.filter_append,m2];simp[hkk]⟩ (by simp only;omega)
      repeat' (first|(apply z04;(first|refine z0l ?_| (apply z0a;(refine z02 z2p rfl rfl ?_))|(apply z0n;(refine z02 (z1o (ys:=(C3 ((Utf8.decode t 0).1:Nat)).map zg4) rfl hvi) rfl rfl ?_))|(apply z0z;(refine z02 (z14 z1p) rfl rfl ?_))|(apply z0x;(refine z97 (g:=zg4) v rfl ?_))|(apply z0j;(refine z2s hfv ?_))|(apply z3t;(refine z3s rfl ?_))|(apply zc9;(refine z02 (z9q rfl rfl) rfl rfl ?_))))|(apply z05;(first|refine z0k ?_|apply z09|refine z1m ?_| refine z1t (fun _=>?_) (fun _=>?_)))|(apply z06;(first|apply z07|apply z00|refine z1f ?_| apply z08|apply z01|apply z03|refine z0h (fun _=>?_) (fun _=>?_)| refine z0o ?_)))
      all_goals try (exfalso;first|omega|exact absurd hkv'.2 (by assumption))
      all_goals refine z4x 40 1000 rfl rfl ?_
      all_goals exact z0e ihk' rfl rfl
     | false =>
      rw[hkk] at hkv
      have hkn:¬ (0≤v∧zai (Utf8.encode v)=t):=fun h=>by
       rw[zAi h.1,zAi h.2] at hkv;cases hkv
      have ihk':=ihk (k+1,l) ⟨by simp only;omega,by simp only;rw[hst,List.filter_append,m2];simp[hkk]⟩ (by simp only;omega)
      repeat' (first|(apply z04;(first|refine z0l ?_| (apply z0a;(refine z02 z2p rfl rfl ?_))|(apply z0n;(refine z02 (z1o (ys:=(C3 ((Utf8.decode t 0).1:Nat)).map zg4) rfl hvi) rfl rfl ?_))|(apply z0z;(refine z02 (z14 z1p) rfl rfl ?_))|(apply z0x;(refine z97 (g:=zg4) v rfl ?_))|(apply z0j;(refine z2s hfv ?_))|(apply z3t;(refine z3s rfl ?_))|(apply zc9;(refine z02 (z9q rfl rfl) rfl rfl ?_))))|(apply z05;(first|refine z0k ?_|apply z09|refine z1m ?_| refine z1t (fun _=>?_) (fun _=>?_)))|(apply z06;(first|apply z07|apply z00|refine z1f ?_| apply z08|apply z01|apply z03|refine z0h (fun _=>?_) (fun _=>?_)| refine z0o ?_)))
      all_goals try (exfalso;first|omega|exact hkn ⟨by assumption,by assumption⟩)
      all_goals exact z0e ihk' rfl rfl
   · obtain rfl:k=3:=by omega
     have m3:l=zl7 c:=by rw[m2,hvar];rfl
     subst m3
     have ih':=ih (t.size,zl7 c) (.inr ⟨rfl,rfl⟩) (by simp only;omega)
     repeat' (first|(apply z04;(refine z0l ?_))|(apply z05;(first|refine z0k ?_|apply z09))|(apply z06;(first|apply z07|apply z00|refine z1f ?_| apply z03|refine z0o ?_)))
     all_goals exact zD30
 · repeat' (first|(apply z04;(first|refine z0l ?_| refine z3w (Nat.lt_irrefl _) rfl rfl (by decide) ?_))|(apply z05;(first|refine z0k ?_|apply z09))|(apply z06;(first|apply z07|apply z00|refine z1f ?_| refine z0o ?_)))
   all_goals try (exfalso;omega)
   refine z19 1000 rfl ?_
   skip
   all_goals try (exfalso;omega)
   all_goals exact z0c Tryz.func124 _ z1j ⟨rfl,rfl⟩
theorem zok (e:Rx) (hf:fit e) (s:ByteArray) (hs:s.size≤1000000):z0m Tryz.prog 95 [.d (Drx e),S s] (B (mtS (fun c=>[c]) e s)):=by
 have hm:=zmj 125 (fun c=>[c]) (fun c _=>zwi c) (fun c=>by simp) e hf s hs
 obtain⟨b,hb⟩:∃ b,mtS (fun c=>[c]) e s=b:=⟨_,rfl⟩
 rw[hb] at hm ⊢
 obtain⟨op,mn,mx,rs,ks⟩:=e
 rw[z4r] at hm ⊢
 refine z10 fun H=>?_
 refine z0g Tryz.func95 (by kernel_rfl) rfl (by simp) ?_
 dsimp only[Tryz.f95]
 repeat' (first|(apply z04;(first|refine z0l ?_| (apply z0a;(refine z02 z2c rfl rfl ?_))|(apply z0j;(refine z2s hm ?_))|(apply z1c;(refine z0b z1q ?_))))|(apply z05;(first|refine z0k ?_|apply z09))|(apply z06;(first|apply z07|apply z00)))
 all_goals exact z0c Tryz.func95 _ z1j ⟨rfl,rfl⟩
theorem zpk (c:Int):(zl7 c).length≤3:=List.length_filter_le _ _
theorem zpn (e:Rx) (hf:fit e) (s:ByteArray) (hs:s.size≤1000000):z0m Tryz.prog 94 [.d (Drx e),S s] (B (mtS zl7 e s)):=by
 have hm:=zmj 124 zl7 zjp zpk e hf s hs
 obtain⟨b,hb⟩:∃ b,mtS zl7 e s=b:=⟨_,rfl⟩
 rw[hb] at hm ⊢
 obtain⟨op,mn,mx,rs,ks⟩:=e
 rw[z4r] at hm ⊢
 refine z10 fun H=>?_
 refine z0g Tryz.func94 (by kernel_rfl) rfl (by simp) ?_
 dsimp only[Tryz.f94]
 repeat' (first|(apply z04;(first|refine z0l ?_| (apply z0a;(refine z02 z2c rfl rfl ?_))|(apply z0j;(refine z2s hm ?_))|(apply z1c;(refine z0b z1q ?_))))|(apply z05;(first|refine z0k ?_|apply z09))|(apply z06;(first|apply z07|apply z00)))
 all_goals exact z0c Tryz.func94 _ z1j ⟨rfl,rfl⟩
end Go.Proofs.YtonhfccmeammbaaGreatDoor
