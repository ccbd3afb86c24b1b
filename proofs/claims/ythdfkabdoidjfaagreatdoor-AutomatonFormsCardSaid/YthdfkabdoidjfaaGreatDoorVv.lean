/- A part of the proof: G29 to G31. -/
import Derived.Test.YthdfkabdoidjfaaGreatDoorVq
import Derived.Test.YthdfkabdoidjfaaGreatDoorVr
import Derived.Test.YthdfkabdoidjfaaGreatDoorVp
import Derived.Test.YthdfkabdoidjfaaGreatDoorVx
set_option linter.all false
namespace Go.Proofs.YthdfkabdoidjfaaGreatDoor
open Go.Ab Go.Rx
set_option maxHeartbeats 20000000
set_option maxRecDepth 100000
attribute [local irreducible] Run Ops Op1 z2a Val Tr z0y z1x NF Rel z3i z3g zac
mutual
theorem zm3:∀ e:Rx,fit e→y0t (fun l=>l.length≤9223372036854775807) e
 | .mk op mn mx rs ks,h=>by rw[fit] at h;rw[y0t];exact⟨h.1,zh7 ks h.2.2⟩
theorem zh7:∀ ks:List Rx,zd0 ks→zii (fun l=>l.length≤9223372036854775807) ks
 | [],_=>by rw[zii];trivial
 | k::ks,h=>by rw[zd0] at h;rw[zii];exact⟨zm3 k h.1,zh7 ks h.2⟩
end
theorem zpo (l:List Rg) (c:Int):inB l c=inR l c:=rfl
abbrev zyj (x:Int):List D:=[z2j x]
theorem zrt:∀ (l:List U) (i:Nat),(unF i l).all okU=l.all y60
 | [],i=>rfl
 | u::l,i=>by
  rw[unF,List.all_cons,List.all_cons,zrt l]
  congr 1
  simp only[okU,y60]
  congr 1
  rw[decide_eq_decide];omega
theorem zr4 (S:Nat):∀ (l:List Nat) (i acc:Nat),acc<2 ^ 64→(∀ x∈l,x<2 ^ 64)→nxF S i acc l<2 ^ 64
 | [],i,acc,h,_=>h
 | x::l,i,acc,h,hl=>by
  rw[nxF]
  refine zr4 S l _ _ ?_ (fun y hy=>hl y (by simp[hy]))
  split
  · exact Nat.or_lt_two_pow h (hl x (by simp))
  · exact h
theorem zq2 {e:Rx} (h:val e=0):Rx.pn e≤64:=by
 rw[val] at h
 split at h
 · simp at h
 split at h
 · simp at h
 split at h
 · simp at h
 · omega
theorem y0c (g:FuncId) (vs:Int→List Int) (hvs:∀ c:Int,Utf8.valid c=true→z0y Tryz.prog g [I .i32 c] (.d (.slice ((vs c).map zyj)))) (hvl:∀ c,(vs c).length≤3) (e:Rx) (hf:fit e) (s:ByteArray) (hs:s.size≤1000000) :
 z0y Tryz.prog 64 [.d (Drx e),S s,.fn (.func g) [] []] (B (mtS vs e s)):=by
 refine z1r fun H=>?_
 have hval:=z4w e hf
 have hvd:=zr1 s hs
 rw[zrt] at hvd
 change z0y Tryz.prog 40 [S s] (B (zuc s)) at hvd
 have hmt:mtS vs e s=(decide (val e=0)&&zuc s&&Rx.mt (okV vs) e (zs2 s)):=rfl
 obtain⟨res,hres⟩:∃ b,mtS vs e s=b:=⟨_,rfl⟩
 rw[hres] at hmt ⊢
 by_cases h0:val e=0
 · cases h1:zuc s with
   | false =>
    rw[h1,Bool.and_false,Bool.false_and] at hmt
    rw[h1] at hvd
    rw[h0] at hval
    subst hmt
    obtain⟨op,mn,mx,rs,ks⟩:=e
    rw[z1n] at hval ⊢
    refine z0k Tryz.func64 (by kernel_rfl) rfl (by simp) ?_
    dsimp only[Tryz.f64]
    repeat' (first|(apply z07;(first|refine z0r ?_| (apply z0b;(refine z02 z2q rfl rfl ?_))|(apply z0s;(first|refine z1w hval ?_| refine z1w hvd ?_))|(apply z1s;(refine z0a z5a ?_))))|(apply z08;(first|refine z0p ?_|apply z09))|(apply z05;(first|apply z06|apply z00|refine z1c ?_)))
    all_goals exact zD87
   | true =>
    rw[h1,h0,zAi rfl,Bool.true_and,Bool.true_and] at hmt
    rw[h1] at hvd
    have hvn:=zbb h0
    have hpn:=zq2 h0
    have hof:=y6u e hvn hf hpn
    have hbl:=(zwe hvn).bl tb0 rfl
    have hfw:=(zwe hvn).few tb0 rfl
    have hlv:=y2h.1 e (zm3 e hf) tb0 (by simp)
    rw[h0] at hval
    dsimp only[ofB] at hof
    rw[Rx.mt] at hmt
    change res=mtF (okV vs) (bd e tb0).1 (bd e tb0).2 (zs2 s) at hmt
    generalize hB:bd e tb0=r1 at *
    obtain⟨t1,p⟩:=r1
    have hfw2:(t1.lv.length:Int)≤Rx.pn e:=by simpa using hfw
    obtain⟨s2,pf,pl⟩:=hbl.sm ⟨rfl,by simp⟩ (by show t1.lv.length≤64;omega)
    obtain⟨lv,fo⟩:=t1
    have hl64:lv.length≤64:=by
     have:lv.length=(⟨lv,fo⟩:Tb).lv.length:=rfl
     omega
    have hfo:fo.length=lv.length:=s2.len
    have hfx:∀ x∈fo,x<2 ^ 64:=s2.sm
    simp only at hlv pf pl hmt hof
    obtain⟨op,mn,mx,rs,ks⟩:=e
    rw[z1n] at hval hof ⊢
    refine z0k Tryz.func64 (by kernel_rfl) rfl (by simp) ?_
    dsimp only[Tryz.f64]
    repeat' (first | (apply z07; (first | refine z0r ?_| (apply z0b; (refine z02 z2q rfl rfl ?_)) | (apply z0s; (first | refine z1w hval ?_| refine z1w hvd ?_| (refine zk2 rfl (hof _) (by decide) rfl (fun r H' h => ⟨_, h.1, h.2, rfl, rfl, ?_⟩)) /- zcy -/)) | (apply z1s; (refine z0a z5a ?_)) | refine zge rfl rfl rfl (by decide) ?_)) | (apply z08; (first | refine z0p ?_ | apply z09)) | (apply z05; (first | apply z06 | apply z00 | refine z0w ?_| apply z04 | apply z01)))
    all_goals try (exfalso;omega)
    refine z1f ?_
    refine z0d (z25 (fun q:Nat × Nat × Bool=>⟨88,[(2,.fn (.func g) [] []),(7,.ptr (0,26) 0),(8,I .u64 (q.2.1:Nat)),(9,B q.2.2),(28,.ptr (0,28) 0)],[(26,tbx lv p.f p.l fo p.nu),(28,.siter s q.1)],H⟩)
     (fun q=>q.1≤s.size∧q.2.1<2 ^ 64∧((q.2.2=true∧q.1=0∧q.2.1=0)∨(q.2.2=false∧zoc (okV vs) ⟨lv,fo⟩ p.l q.2.1 ((rst s q.1).map (·.r))=res))) (fun q=>s.size-q.1) ?_ (0,0,true) ⟨zAf _,by decide,.inl ⟨rfl,rfl,rfl⟩⟩) rfl rfl
    rintro⟨q,S,beg⟩ ⟨i1,i2,i3⟩ ih
    simp only at i1 i2 i3 ih ⊢
    by_cases hlt:q<s.size
    · have hd:=zer hlt
      have hw:=zhy s q hlt
      have hcv:=zgx s q hlt
      have hvc:=hvs _ hcv
      have hvl2:=hvl ((Utf8.decode s q).1:Nat)
      have hnx:=zly (X:=26) lv p.f p.l fo p.nu S i2 (by omega) hfx beg 0
      obtain⟨N,hN⟩:∃ N,(if beg=true then p.f else nxF S 0 0 fo)=N:=⟨_,rfl⟩
      have hNl:N<2 ^ 64:=by
       rw[← hN]
       split
       · exact pf
       · exact zr4 S fo 0 0 (by decide) hfx
      rw[hN] at hnx
      obtain⟨c,hc⟩:∃ c,((Utf8.decode s q).1:Int)=c:=⟨_,rfl⟩
      obtain⟨vl,hvle⟩:∃ vl,vs ((Utf8.decode s q).1:Nat)=vl:=⟨_,rfl⟩
      rw[hvle] at hvc hvl2
      obtain⟨S',hS'⟩:∃ S',rdF (okV vs) c N 0 0 lv=S':=⟨_,rfl⟩
      have key:(S'=0→res=false)∧(S'≠0→zoc (okV vs) ⟨lv,fo⟩ p.l S' ((rst s (q+(Utf8.decode s q).2)).map (·.r))=res):=by
       rcases i3 with ⟨rfl,rfl,rfl⟩|⟨rfl,i3⟩
       · rw[zAz rfl] at hN
         subst hN
         rw[zs2,hd,List.map_cons,mtF] at hmt
         simp only[hc,hS'] at hmt
         constructor
         · intro h;rw[hmt,zAz h]
         · intro h;rw[hmt,zAy h]
       · rw[zAy (by decide)] at hN
         rw[hd,List.map_cons,zoc] at i3
         simp only[hc,hN,hS'] at i3
         constructor
         · intro h;rw[← i3,zAz h]
         · intro h;rw[zAy h] at i3;exact i3
      have hS'l:S'<2 ^ 64:=by rw[← hS'];exact zpx _ _ _ hl64 (by decide)
      have hrv:=y1e vs c N lv
      rw[hS',← hc,hvle] at hrv
      have hdl:∀ v:Int,∀ l:List Rg,l.length≤9223372036854775807→z0y Tryz.prog 108 [.d (rgs l),I .i32 v] (B (inB l v)):=fun v l h=>zo0 l h v
      repeat' (first | (apply z07; (first | refine z0r ?_| (apply z11; (refine z02 (z1k rfl) rfl rfl ?_)) | (apply z0s; (first | refine z3p hnx rfl rfl (by decide) ?_ | (refine zzj [] [] [I .i32 ((Utf8.decode s q).1 : Int)] (hvc.at _) rfl rfl (by decide) ?_) /- zcy -/)) | refine z4t hlt rfl rfl (by decide) ?_)) | (apply z08; (first | refine z0p ?_ | apply z09)) | (apply z05; (first | apply z06 | apply z00 | refine z1c ?_| apply z04 | apply z01)))
      all_goals try (exfalso;omega)
      refine z1f ?_
      refine z0d (z25 (fun j:Nat × Nat=>⟨88,[(2,.fn (.func g) [] []),(7,.ptr (0,26) 0),(8,I .u64 (j.2:Nat)),(9,B false),(12,I .u64 (N:Nat)),(28,.ptr (0,28) 0),(38,.d (.slice (vl.map zyj))),(39,I .i64 vl.length),(40,I .i64 (j.1:Nat))],[(26,tbx lv p.f p.l fo p.nu),(28,.siter s (q+(Utf8.decode s q).2))],H⟩)
       (fun j=>j.1≤vl.length∧j.2<2 ^ 64∧rdV N lv (vl.drop j.1) j.2=S') (fun j=>vl.length-j.1) ?_ (0,0) ⟨zAf _,by decide,hrv⟩) rfl rfl
      rintro⟨j,A⟩ ⟨m1,m2,m3⟩ ihm
      simp only at m1 m2 m3 ihm ⊢
      by_cases hj:j<vl.length
      · obtain⟨v,hv⟩:∃ v,vl[j]? =some v:=⟨_,zA0 hj⟩
        rw[drop_cons hv,rdV] at m3
        obtain⟨A',hA'⟩:∃ A',rdF (fun c l=>inR l c) v N 0 A lv=A':=⟨_,rfl⟩
        rw[hA'] at m3
        have hvi:(vl.map zyj)[((j:Nat):Int).toNat]? =some (zyj v):=by simp[hv]
        repeat' (first|(apply z07;(first|refine z0r ?_| (apply z0b;(first|refine z02 z1i rfl rfl ?_| refine z02 z2r rfl rfl ?_))|(apply z0e;(refine z02 z0q rfl rfl ?_))|(apply z0m;(refine z02 (z1b (ys:=vl.map zyj) rfl hvi) rfl rfl ?_))|(apply z11;(refine z02 (z1k rfl) rfl rfl ?_))))|(apply z08;(first|refine z0p ?_|apply z09))|(apply z05;(first|apply z06|apply z00|apply z04|apply z01|apply z03|refine z0f (fun _=>?_) (fun _=>?_)| refine z0l ?_)))
        all_goals try (exfalso;omega)
        refine z1f ?_
        refine z0d (z25 (fun k:Nat × Nat=>⟨88,[(2,.fn (.func g) [] []),(7,.ptr (0,26) 0),(8,I .u64 (k.2:Nat)),(9,B false),(12,I .u64 (N:Nat)),(14,I .i32 v),(28,.ptr (0,28) 0),(38,.d (.slice (vl.map zyj))),(39,I .i64 vl.length),(40,I .i64 (j:Nat)),(47,.d (lvs lv)),(48,I .i64 lv.length),(49,I .i64 (k.1:Nat))],[(26,tbx lv p.f p.l fo p.nu),(28,.siter s (q+(Utf8.decode s q).2))],H⟩)
         (fun k=>k.1≤lv.length∧k.2<2 ^ 64∧rdF (fun c l=>inR l c) v N k.1 k.2 (lv.drop k.1)=A') (fun k=>lv.length-k.1) ?_ (0,A) ⟨zAf _,m2,hA'⟩) rfl rfl
        rintro⟨k,B'⟩ ⟨n1,n2,n3⟩ ihn
        simp only at n1 n2 n3 ihn ⊢
        by_cases hk:k<lv.length
        · obtain⟨l,hl⟩:∃ l,lv[k]? =some l:=⟨_,zA0 hk⟩
          have hlm:=hlv l (zA2 hl)
          have hcl:=hdl v l hlm
          have hli:(lv.map fun r=>[rgs r])[((k:Nat):Int).toNat]? =some [rgs l]:=by simp[hl]
          rw[zmt _ _ _ hl] at n3
          have hbt:=zox (S:=N) (i:=k) hNl (by omega)
          have hsh:=y02 (i:=k) (by omega)
          have hp2:2 ^ k<2 ^ 64:=Nat.pow_lt_pow_right (by decide) (by omega)
          have hor:=zwh n2 hp2
          rw[← hsh] at hor
          rw[zpo] at hcl
          by_cases htb:N.testBit k=true
          · rw[zAz htb] at hbt
            cases hin:inR l v with
            | true =>
             rw[zAz ⟨htb,hin⟩] at n3
             rw[hin] at hcl
             have ihn':=ihn (k+1,B' ||| 2 ^ k) ⟨by simp only;omega,Nat.or_lt_two_pow n2 hp2,n3⟩ (by simp only;omega)
             dsimp only at ihn'
             rw[← hor] at ihn'
             repeat' (first|(apply z07;(first|refine z0r ?_| (apply z0b;(refine z02 z2r rfl rfl ?_))|(apply z0m;(refine z02 (z1b (ys:=lv.map fun r=>[rgs r]) rfl hli) rfl rfl ?_))|(apply z0t;(first|refine z02 (z9b (by omega)) rfl rfl ?_| refine z02 (zkf (by omega)) rfl rfl ?_| refine z02 z5h rfl rfl ?_| refine z02 zc2 rfl rfl ?_| refine z02 (z0u z0x) rfl rfl ?_))|(apply z0s;(refine z1w hcl ?_))))|(apply z08;(first|refine z0p ?_|apply z09|refine z1v ?_| refine z2n (fun _=>?_) (fun _=>?_)))|(apply z05;(first|apply z06|apply z00|refine z1c ?_| refine z0w ?_| apply z04|apply z01|apply z03|refine z0f (fun _=>?_) (fun _=>?_)| refine z0l ?_)))
             all_goals exact zD70
            | false =>
             rw[zAy (fun h=>by rw[hin] at h;cases h.2)] at n3
             rw[hin] at hcl
             have ihn':=ihn (k+1,B') ⟨by simp only;omega,n2,n3⟩ (by simp only;omega)
             repeat' (first|(apply z07;(first|refine z0r ?_| (apply z0b;(refine z02 z2r rfl rfl ?_))|(apply z0m;(refine z02 (z1b (ys:=lv.map fun r=>[rgs r]) rfl hli) rfl rfl ?_))|(apply z0t;(first|refine z02 (z9b (by omega)) rfl rfl ?_| refine z02 z5h rfl rfl ?_| refine z02 (z0u z0x) rfl rfl ?_))|(apply z0s;(refine z1w hcl ?_))))|(apply z08;(first|refine z0p ?_|apply z09|refine z1v ?_| refine z2n (fun _=>?_) (fun _=>?_)))|(apply z05;(first|apply z06|apply z00|refine z0w ?_| apply z04|apply z01|apply z03|refine z0f (fun _=>?_) (fun _=>?_)| refine z0l ?_)))
             all_goals exact zD70
          · rw[zAy htb] at hbt
            rw[zAy (fun h=>htb h.1)] at n3
            have ihn':=ihn (k+1,B') ⟨by simp only;omega,n2,n3⟩ (by simp only;omega)
            repeat' (first|(apply z07;(first|refine z0r ?_| (apply z0b;(refine z02 z2r rfl rfl ?_))|(apply z0m;(refine z02 (z1b (ys:=lv.map fun r=>[rgs r]) rfl hli) rfl rfl ?_))|(apply z0t;(first|refine z02 (z9b (by omega)) rfl rfl ?_| refine z02 (zkf (by omega)) rfl rfl ?_| refine z02 z5h rfl rfl ?_| refine z02 zc2 rfl rfl ?_| refine z02 (z0u z0x) rfl rfl ?_))|(apply z0s;(refine z1w hcl ?_))))|(apply z08;(first|refine z0p ?_|apply z09|refine z1v ?_| refine z2n (fun _=>?_) (fun _=>?_)))|(apply z05;(first|apply z06|apply z00|refine z0w ?_| apply z04|apply z01|apply z03|refine z0f (fun _=>?_) (fun _=>?_)| refine z81 rfl (fun _=>?_) (fun _=>?_)|refine z0l ?_)))
            all_goals exact zD70
        · obtain rfl:k=lv.length:=by omega
          rw[zAs,rdF] at n3
          subst n3
          have ihm':=ihm (j+1,B') ⟨by simp only;omega,n2,m3⟩ (by simp only;omega)
          repeat' (first|(apply z07;(first|refine z0r ?_| (apply z0t;(refine z02 (z0u z0x) rfl rfl ?_))))|(apply z08;(first|refine z0p ?_|apply z09))|(apply z05;(first|apply z06|apply z00|apply z04|apply z01|apply z03|refine z0f (fun _=>?_) (fun _=>?_)| refine z0l ?_)))
          all_goals try (exfalso;omega)
          all_goals exact z0d ihm' rfl rfl
      · obtain rfl:j=vl.length:=by omega
        rw[zAs,rdV] at m3
        subst m3
        by_cases hA:A=0
        · subst hA
          have hr:=key.1 rfl
          subst hr
          repeat' (first|(apply z07;(refine z0r ?_))|(apply z08;(first|refine z0p ?_|apply z09))|(apply z05;(first|apply z06|apply z00|refine z1c ?_| apply z04|apply z01|refine z0f (fun _=>?_) (fun _=>?_)| refine z0l ?_)))
          all_goals exact zD87
        · have hr:=key.2 hA
          have ih':=ih (q+(Utf8.decode s q).2,A,false) ⟨by simp only;omega,m2,.inr ⟨rfl,hr⟩⟩ (by simp only;omega)
          all_goals exact zD83
    · obtain rfl:q=s.size:=by omega
      have hd:=za9 (s:=s) (i:=s.size) (zAj _)
      rcases i3 with ⟨rfl,h0q,rfl⟩|⟨rfl,i3⟩
      · have hz:rst s 0=[]:=za9 (by omega)
        rw[zs2,hz,List.map_nil,mtF] at hmt
        subst hmt
        cases hnu:p.nu with
        | true =>
         repeat' (first|(apply z07;(first|refine z0r ?_| (apply z0b;(refine z02 z1i rfl rfl ?_))|(apply z0e;(refine z02 z0q rfl rfl ?_))|refine z4u hlt rfl rfl (by decide) ?_))|(apply z08;(first|refine z0p ?_|apply z09|refine z1v ?_))|(apply z05;(first|apply z06|apply z00|refine z0w ?_| refine z0l ?_)))
         all_goals exact zD87
        | false =>
         have ha:=zug (a:=0) (b:=p.l) (by decide) pl
         rw[Nat.zero_and] at ha
         have hfin:(!decide (zec .u64 ((0:Nat):Int) (p.l:Nat)=0))=false:=by rw[ha];rfl
         repeat' (first|(apply z07;(first|refine z0r ?_| (apply z0b;(refine z02 z1i rfl rfl ?_))|(apply z0e;(refine z02 z0q rfl rfl ?_))|(apply z0t;(refine z02 z5h rfl rfl ?_))|refine z4u hlt rfl rfl (by decide) ?_))|(apply z08;(first|refine z0p ?_|apply z09))|(apply z05;(first|apply z06|apply z00|refine z0w ?_| refine z0l ?_)))
         all_goals exact zD126
      · rw[hd,List.map_nil,zoc] at i3
        have ha:=zug i2 pl
        have hfin:(!decide (zec .u64 (S:Nat) (p.l:Nat)=0))=res:=by
         rw[ha,← i3,← decide_not,decide_eq_decide];omega
        repeat' (first|(apply z07;(first|refine z0r ?_| (apply z0b;(refine z02 z1i rfl rfl ?_))|(apply z0e;(refine z02 z0q rfl rfl ?_))|(apply z0t;(refine z02 z5h rfl rfl ?_))|refine z4u hlt rfl rfl (by decide) ?_))|(apply z08;(first|refine z0p ?_|apply z09|refine z1v ?_))|(apply z05;(first|apply z06|apply z00|refine z0w ?_| refine z0l ?_)))
        all_goals exact zD126
 · have hne:(decide (val e=0))=false:=zAo h0
   rw[hne,Bool.false_and,Bool.false_and] at hmt
   subst hmt
   obtain⟨op,mn,mx,rs,ks⟩:=e
   rw[z1n] at hval ⊢
   refine z0k Tryz.func64 (by kernel_rfl) rfl (by simp) ?_
   dsimp only[Tryz.f64]
   repeat' (first|(apply z07;(first|refine z0r ?_| (apply z0b;(refine z02 z2q rfl rfl ?_))|(apply z0s;(first|refine z1w hval ?_| refine z1w hvd ?_))|(apply z1s;(refine z0a z5a ?_))))|(apply z08;(first|refine z0p ?_|apply z09|refine z1v ?_| refine z6c rfl rfl (fun _=>?_) (fun _=>?_)))|(apply z05;(first|apply z06|apply z00|refine z1c ?_| apply z04|refine z81 rfl (fun _=>?_) (fun _=>?_))))
   all_goals exact zD87
theorem y2e (c:Int):z0y Tryz.prog 65 [I .i32 c] (.d (.slice (([c]:List Int).map zyj))):=by
 refine z1r fun H=>?_
 refine z0k Tryz.func65 (by kernel_rfl) rfl (by simp) ?_
 dsimp only[Tryz.f65]
 repeat' (first|(apply z07;(first|refine z0r ?_| (apply z2o;(refine z2s rfl ?_))))|(apply z08;(first|refine z0p ?_|apply z09))|(apply z05;(first|apply z06|apply z00)))
 all_goals exact z0n Tryz.func65 _ z19 ⟨rfl,rfl⟩
theorem ztp (e:Rx) (hf:fit e) (s:ByteArray) (hs:s.size≤1000000):z0y Tryz.prog 34 [.d (Drx e),S s] (B (mtS (fun c=>[c]) e s)):=by
 have hm:=y0c 65 (fun c=>[c]) (fun c _=>y2e c) (fun c=>by simp) e hf s hs
 obtain⟨b,hb⟩:∃ b,mtS (fun c=>[c]) e s=b:=⟨_,rfl⟩
 rw[hb] at hm ⊢
 obtain⟨op,mn,mx,rs,ks⟩:=e
 rw[z1n] at hm ⊢
 refine z1r fun H=>?_
 refine z0k Tryz.func34 (by kernel_rfl) rfl (by simp) ?_
 dsimp only[Tryz.f34]
 repeat' (first|(apply z07;(first|refine z0r ?_| (apply z0b;(refine z02 z2q rfl rfl ?_))|(apply z0s;(refine z1w hm ?_))|(apply z1s;(refine z0a z5a ?_))))|(apply z08;(first|refine z0p ?_|apply z09))|(apply z05;(first|apply z06|apply z00)))
 all_goals exact z0n Tryz.func34 _ z19 ⟨rfl,rfl⟩
end Go.Proofs.YthdfkabdoidjfaaGreatDoor
