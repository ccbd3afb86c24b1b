/- A part of the proof: G39 to G31. -/
import Derived.Test.YtmcggompdmngmaaGreatDoorYc
import Derived.Test.YtmcggompdmngmaaGreatDoorYz
import Derived.Test.YtmcggompdmngmaaGreatDoorYx
import Derived.Test.YtmcggompdmngmaaGreatDoorYq
import Derived.Test.YtmcggompdmngmaaGreatDoorYr
import Derived.Test.YtmcggompdmngmaaGreatDoorYp
set_option linter.all false
namespace Go.Proofs.YtmcggompdmngmaaGreatDoor
open Go.Ab Go.Rx
set_option maxHeartbeats 20000000
set_option maxRecDepth 100000
attribute [local irreducible] Run Ops Op1 z0u Val Tr z09 z0q NF Rel z1v z1u z5p
abbrev Uq:=Int × Int × Int × Bool
abbrev uqc (u:Uq):List D:=[z11 u.1,z2g u.2.1,z2g u.2.2.1,zl3 u.2.2.2]
def uQ:Nat→List U→List Uq
 | _,[]=>[]
 | i,u::l=>(u.r,(i:Int),(u.n:Int),false)::uQ (i+u.n) l
def okf (u:Uq):Uq:=(u.1,u.2.1,u.2.2.1,!decide (u.1=65533)||decide (u.2.2.1=3))
theorem y0q:∀ (l:List U) (i:Nat),((uQ i l).map okf).all (fun u=>u.2.2.2)=l.all zsi
 | [],i=>rfl
 | u::l,i=>by
  rw[uQ,List.map_cons,List.all_cons,List.all_cons,y0q l]
  congr 1
  simp only[okf,zsi]
  congr 1
  rw[decide_eq_decide];omega
theorem zrc:∀ (l:List U) (i:Nat),(uQ i l).length=l.length
 | [],i=>rfl
 | u::l,i=>by rw[uQ,zAk,zAk,zrc l]
def inv1 (s:ByteArray) (q:Nat) (l:List Uq):Prop:=(l=[]∧q=0)∨(∃ P r a,l=P++[(r,a,0,false)]∧0≤a∧a≤(q:Int)∧P.length<q∧P++(r,a,(q:Int)-a,false)::uQ q (rst s q)=uQ 0 (rst s 0))
theorem y30 (s:ByteArray) (hs:s.size≤1000000):z09 Tryz.prog 49 [S s] (.d (.slice (((uQ 0 (rst s 0)).map okf).map uqc))):=by
 refine z0t fun H=>?_
 refine z06 Tryz.func49 (by kernel_rfl) rfl (by simp) ?_
 dsimp only[Tryz.f49]
 repeat' (first|refine z01 ?_|(apply z10;(refine z8y rfl rfl rfl (by decide) ?_)))
 all_goals try (exfalso;omega)
 refine z2v 3 1000 103 4 rfl rfl rfl ?_
 refine z0d ?_
 refine z00 (z0p (fun q:Nat × List Uq=>⟨81,[(0,S s),(3,.ref (0,1000)),(8,.ptr (0,8) 0)],[(8,.siter s q.1),(1000,.row 103 4 (q.2.map uqc))],H⟩) (fun q=>q.1≤s.size∧inv1 s q.1 q.2) (fun q=>s.size-q.1) ?_ (0,[]) ⟨zAf _,.inl ⟨rfl,rfl⟩⟩) rfl rfl
 rintro⟨q,l⟩ ⟨i1,i2⟩ ih
 simp only at i1 i2 ih ⊢
 by_cases hlt:q<s.size
 · have hd:=z5l hlt
   have hw:=z8a s q hlt
   have hdh:=zei s q
   rcases i2 with ⟨rfl,rfl⟩|⟨P,r,a,rfl,a0,a1,hpl,heq⟩
   · have ih':=ih (0+(Utf8.decode s 0).2,([((((Utf8.decode s 0).1:Nat):Int),((0:Nat):Int),(0:Int),false)]:List Uq)) ⟨by simp only;omega,.inr ⟨[],_,_,rfl,by simp,by simp only;omega,by simp only[List.length_nil];omega,by
      simp only
      rw[hd,uQ,List.nil_append]
      congr 2
      simp⟩⟩ (by simp only;omega)
     repeat' (first|(apply z1k;(first|refine z7d (g:=uqc) rfl rfl (((((Utf8.decode s 0).1:Nat):Int),((0:Nat):Int),(0:Int),false):Uq) rfl rfl rfl rfl rfl rfl rfl (by decide) (by simp) ?_|refine z08 (z4d rfl) rfl rfl ?_))|refine z01 ?_|(apply z10;(refine z1p hlt rfl rfl (by decide) ?_)))
     all_goals try (exfalso;simp at *;done)
     all_goals refine z2y 36 1000 ?_
     all_goals exact z00 ih' rfl rfl
   · have hix:(P++[(r,a,(0:Int),false)])[((((((P++[(r,a,(0:Int),false)]).map uqc).length:Nat):Int)-1)).toNat]? =some ((r,a,0,false):Uq):=by
      exact zD56
     have hse:(P++[(r,a,(0:Int),false)]).set ((((((P++[(r,a,(0:Int),false)]).map uqc).length:Nat):Int)-1)).toNat ((r,a,(q:Int)-a,false):Uq)=P++[(r,a,(q:Int)-a,false)]:=by
      exact zD56
     have hln:((P++[(r,a,(0:Int),false)]).map uqc).length=P.length+1:=by simp
     have hln2:(P++[(r,a,(q:Int)-a,false)]).length=P.length+1:=by simp
     have ih':=ih (q+(Utf8.decode s q).2,(P++[(r,a,(q:Int)-a,false)])++([((((Utf8.decode s q).1:Nat):Int),((q:Nat):Int),(0:Int),false)]:List Uq)) ⟨by simp only;omega,.inr ⟨P++[(r,a,(q:Int)-a,false)],_,_,rfl,by simp,by simp only;omega,by simp only[zAa,zAn];omega,by
      simp only
      rw[hd,uQ] at heq
      rw[← heq,zAl,List.singleton_append,show (((q+(Utf8.decode s q).2:Nat):Int)-(q:Nat))=((Utf8.decode s q).2:Nat) by omega]⟩⟩ (by simp only;omega)
     repeat' (first|(apply z13;(refine z08 (z0i (u:=z2g a) hix) rfl rfl ?_))|(apply z04;(refine z08 (z8t rfl) rfl rfl ?_))|(apply z1k;(first|refine z6p (g:=uqc) (((((Utf8.decode s q).1:Nat):Int),((q:Nat):Int),(0:Int),false):Uq) rfl ?_| refine z08 (z4d rfl) rfl rfl ?_))|(apply z1q;(refine zch ((r,a,(q:Int)-a,false):Uq) hix hse ?_))|refine z01 ?_|refine fk (fun _=>?_) (fun _=>?_)|(apply z10;(refine z1p hlt rfl rfl (by decide) ?_)))
     all_goals try (exfalso;omega)
     all_goals refine z2y 36 1000 ?_
     all_goals exact z00 ih' rfl rfl
 · obtain rfl:q=s.size:=by omega
   have hd:=z3g (s:=s) (i:=s.size) (zAj _)
   obtain⟨L,hL⟩:∃ L,uQ 0 (rst s 0)=L:=⟨_,rfl⟩
   have hLl:L.length≤s.size:=by
    rw[← hL,zrc]
    have:=zfn s s.size 0 (by omega)
    omega
   rw[hL]
   rcases i2 with ⟨rfl,h0⟩|⟨P,r,a,rfl,a0,a1,hpl,heq⟩
   · have hLn:L=[]:=by rw[← hL,z3g (by omega)];rfl
     repeat' (first|(apply z1k;(refine z08 (z4d rfl) rfl rfl ?_))|refine z01 ?_|(apply z10;(refine z2f hlt rfl rfl (by decide) ?_)))
     all_goals try (exfalso;simp at *;done)
     refine z0d ?_
     refine z00 (z0p (fun k:Nat=>⟨81,[(3,.ref (0,1000)),(57,I .i64 L.length),(58,I .i64 (k:Nat))],[(1000,.row 103 4 (((L.take k).map okf++L.drop k).map uqc))],H⟩) (fun k=>k≤L.length) (fun k=>L.length-k) ?_ 0 (zAf _)) (by rw[hLn];rfl) (by rw[hLn];rfl)
     exact zD5
   · rw[hd,uQ,hL] at heq
     have hix:(P++[(r,a,(0:Int),false)])[((((((P++[(r,a,(0:Int),false)]).map uqc).length:Nat):Int)-1)).toNat]? =some ((r,a,0,false):Uq):=by
      exact zD56
     have hse:(P++[(r,a,(0:Int),false)]).set ((((((P++[(r,a,(0:Int),false)]).map uqc).length:Nat):Int)-1)).toNat ((r,a,(s.size:Int)-a,false):Uq)=P++[(r,a,(s.size:Int)-a,false)]:=by
      exact zD56
     rw[heq] at hse
     have hln:((P++[(r,a,(0:Int),false)]).map uqc).length=P.length+1:=by simp
     repeat' (first|(apply z13;(refine z08 (z0i (u:=z2g a) hix) rfl rfl ?_))|(apply z04;(refine z08 (z8t rfl) rfl rfl ?_))|(apply z1k;(refine z08 (z4d rfl) rfl rfl ?_))|(apply z1q;(refine zch ((r,a,(s.size:Int)-a,false):Uq) hix hse ?_))|refine z01 ?_|refine fk (fun _=>?_) (fun _=>?_)|(apply z10;(refine z2f hlt rfl rfl (by decide) ?_)))
     all_goals try (exfalso;omega)
     refine z0d ?_
     refine z00 (z0p (fun k:Nat=>⟨81,[(3,.ref (0,1000)),(57,I .i64 L.length),(58,I .i64 (k:Nat))],[(1000,.row 103 4 (((L.take k).map okf++L.drop k).map uqc))],H⟩) (fun k=>k≤L.length) (fun k=>L.length-k) ?_ 0 (zAf _)) (by rw[show (L.length:Int)=(((L.map uqc).length:Nat):Int) by rw[zA4]];rfl) rfl
     exact zD5
theorem zmq (s:ByteArray) (hs:s.size≤1000000):z09 Tryz.prog 80 [S s] (B (zbi s)):=by
 refine z0t fun H=>?_
 have hu:=y30 s hs
 have hall:=y0q (rst s 0) 0
 change _=zbi s at hall
 have hlen:((uQ 0 (rst s 0)).map okf).length≤s.size:=by
  rw[zA4,zrc]
  have:=zfn s s.size 0 (by omega)
  omega
 generalize (uQ 0 (rst s 0)).map okf=L at *
 rw[← hall]
 refine z06 Tryz.func80 (by kernel_rfl) rfl (by simp) ?_
 dsimp only[Tryz.f80]
 repeat' (first|(apply z03;(refine z1n hu ?_))|refine z01 ?_|fail)
 all_goals try (exfalso;omega)
 refine z0d ?_
 refine z00 (z0p (fun q:Nat=>⟨16,[(6,.d (.slice (L.map uqc))),(7,I .i64 L.length),(8,I .i64 (q:Nat))],[],H⟩) (fun q=>q≤L.length∧(L.drop q).all (fun u=>u.2.2.2)=L.all (fun u=>u.2.2.2)) (fun q=>L.length-q) ?_ 0 ⟨zAf _,rfl⟩) rfl rfl
 rintro i ⟨i1,i2⟩ ihl
 by_cases hlt:i<L.length
 · obtain⟨u,hui⟩:∃ u,L[i]? =some u:=⟨_,zA0 hlt⟩
   rw[drop_cons hui,List.all_cons] at i2
   have hx:(L.map uqc)[((i:Nat):Int).toNat]? =some (uqc u):=by simp[hui]
   obtain⟨u1,u2,u3,u4⟩:=u
   simp only at i2
   cases u4 with
   | true =>
    rw[Bool.true_and] at i2
    repeat' (first|(apply z04;(refine z08 (z1f (ys:=L.map uqc) rfl hx) rfl rfl ?_))|refine z01 ?_|refine fk (fun _=>?_) (fun _=>?_))
    all_goals try (exfalso;omega)
    all_goals exact z00 (ihl (i+1) ⟨by omega,i2⟩ (by omega)) rfl rfl
   | false =>
    rw[Bool.false_and] at i2
    rw[← i2]
    repeat' (first|(apply z04;(refine z08 (z1f (ys:=L.map uqc) rfl hx) rfl rfl ?_))|refine z01 ?_|refine fk (fun _=>?_) (fun _=>?_))
    all_goals try (exfalso;omega)
    all_goals exact z02 Tryz.func80 _ z1d ⟨rfl,rfl⟩
 · obtain rfl:i=L.length:=by omega
   rw[zAs] at i2
   rw[← i2]
   repeat' (first|refine z01 ?_|refine fk (fun _=>?_) (fun _=>?_))
   all_goals try (exfalso;omega)
   all_goals exact z02 Tryz.func80 _ z1d ⟨rfl,rfl⟩
mutual
theorem zo9:∀ e:Rx,fit e→y5w (fun l=>l.length≤9223372036854775807) e
 | .mk op mn mx rs ks,h=>by rw[fit] at h;rw[y5w];exact⟨h.1,zi3 ks h.2.2⟩
theorem zi3:∀ ks:List Rx,zz9 ks→zi5 (fun l=>l.length≤9223372036854775807) ks
 | [],_=>by rw[zi5];trivial
 | k::ks,h=>by rw[zz9] at h;rw[zi5];exact⟨zo9 k h.1,zi3 ks h.2⟩
end
theorem zq5 (l:List Rg) (c:Int):inB l c=inR l c:=rfl
abbrev zj3 (x:Int):List D:=[z11 x]
theorem zzr:∀ (l:List U) (i:Nat),(unF i l).all okU=l.all zsi
 | [],i=>rfl
 | u::l,i=>by
  rw[unF,List.all_cons,List.all_cons,zzr l]
  congr 1
  simp only[okU,zsi]
  congr 1
  rw[decide_eq_decide];omega
theorem zsj (S:Nat):∀ (l:List Nat) (i acc:Nat),acc<2 ^ 64→(∀ x∈l,x<2 ^ 64)→nxF S i acc l<2 ^ 64
 | [],i,acc,h,_=>h
 | x::l,i,acc,h,hl=>by
  rw[nxF]
  refine zsj S l _ _ ?_ (fun y hy=>hl y (by simp[hy]))
  split
  · exact Nat.or_lt_two_pow h (hl x (by simp))
  · exact h
theorem zu2 {e:Rx} (h:val e=0):Rx.pn e≤64:=by
 rw[val] at h
 split at h
 · simp at h
 split at h
 · simp at h
 split at h
 · simp at h
 · omega
theorem zpt (g:FuncId) (vs:Int→List Int) (hvs:∀ c:Int,Utf8.valid c=true→z09 Tryz.prog g [I .i32 c] (.d (.slice ((vs c).map zj3)))) (hvl:∀ c,(vs c).length≤3) (e:Rx) (hf:fit e) (s:ByteArray) (hs:s.size≤1000000) :
 z09 Tryz.prog 63 [.d (Drx e),S s,.fn (.func g) [] []] (B (mtS vs e s)):=by
 refine z0t fun H=>?_
 have hval:=z61 e hf
 have hvd:=ztk s hs
 rw[zzr] at hvd
 change z09 Tryz.prog 82 [S s] (B (zbi s)) at hvd
 have hmt:mtS vs e s=(decide (val e=0)&&zbi s&&Rx.mt (okV vs) e (z2x s)):=rfl
 obtain⟨res,hres⟩:∃ b,mtS vs e s=b:=⟨_,rfl⟩
 rw[hres] at hmt ⊢
 by_cases h0:val e=0
 · cases h1:zbi s with
   | false =>
    rw[h1,Bool.and_false,Bool.false_and] at hmt
    rw[h1] at hvd
    rw[h0] at hval
    subst hmt
    obtain⟨op,mn,mx,rs,ks⟩:=e
    rw[z2m] at hval ⊢
    refine z06 Tryz.func63 (by kernel_rfl) rfl (by simp) ?_
    dsimp only[Tryz.f63]
    repeat' (first|(apply z03;(first|refine z1n hval ?_| refine z1n hvd ?_))|refine z01 ?_|fail)
    all_goals exact zD80
   | true =>
    rw[h1,h0,zAi rfl,Bool.true_and,Bool.true_and] at hmt
    rw[h1] at hvd
    have hvn:=zb2 h0
    have hpn:=zu2 h0
    have hof:=yd9 e hvn hf hpn
    have hbl:=(y0r hvn).bl tb0 rfl
    have hfw:=(y0r hvn).few tb0 rfl
    have hlv:=y9r.1 e (zo9 e hf) tb0 (by simp)
    rw[h0] at hval
    dsimp only[ofB] at hof
    rw[Rx.mt] at hmt
    change res=mtF (okV vs) (bd e tb0).1 (bd e tb0).2 (z2x s) at hmt
    generalize hB:bd e tb0=r1 at *
    obtain⟨t1,p⟩:=r1
    have hfw2:(t1.lv.length:Int)≤Rx.pn e:=by simpa using hfw
    obtain⟨s2,pf,pl⟩:=hbl.sm ⟨rfl,by simp⟩ (by show t1.lv.length≤64;omega)
    obtain⟨lv,fo⟩:=t1
    have hl64:lv.length≤64:=by
     have:lv.length=(⟨lv,fo⟩:Tb).lv.length:=rfl
     omega
    have hfo:fo.length=lv.length:=s2.len
    have hfx:∀ x∈fo,x<2 ^ 64:=s2.sm
    simp only at hlv pf pl hmt hof
    obtain⟨op,mn,mx,rs,ks⟩:=e
    rw[z2m] at hval hof ⊢
    refine z06 Tryz.func63 (by kernel_rfl) rfl (by simp) ?_
    dsimp only[Tryz.f63]
    repeat' (first | (apply z03; (first | refine z1n hval ?_| refine z1n hvd ?_| (refine za7 rfl (hof _) (by decide) rfl (fun r H' h => ⟨_, h.1, h.2, rfl, rfl, ?_⟩)) /- z5h -/)) | refine z01 ?_ | (apply z10; (refine z8y rfl rfl rfl (by decide) ?_)))
    all_goals try (exfalso;omega)
    refine z0d ?_
    refine z00 (z0p (fun q:Nat × Nat × Bool=>⟨88,[(2,.fn (.func g) [] []),(7,.ptr (0,26) 0),(8,I .u64 (q.2.1:Nat)),(9,B q.2.2),(28,.ptr (0,28) 0)],[(26,tbx lv p.f p.l fo p.nu),(28,.siter s q.1)],H⟩)
     (fun q=>q.1≤s.size∧q.2.1<2 ^ 64∧((q.2.2=true∧q.1=0∧q.2.1=0)∨(q.2.2=false∧zw8 (okV vs) ⟨lv,fo⟩ p.l q.2.1 ((rst s q.1).map (·.r))=res))) (fun q=>s.size-q.1) ?_ (0,0,true) ⟨zAf _,by decide,.inl ⟨rfl,rfl,rfl⟩⟩) rfl rfl
    rintro⟨q,S,beg⟩ ⟨i1,i2,i3⟩ ih
    simp only at i1 i2 i3 ih ⊢
    by_cases hlt:q<s.size
    · have hd:=z5l hlt
      have hw:=z8a s q hlt
      have hcv:=zcn s q hlt
      have hvc:=hvs _ hcv
      have hvl2:=hvl ((Utf8.decode s q).1:Nat)
      have hnx:=zmc (X:=26) lv p.f p.l fo p.nu S i2 (by omega) hfx beg 0
      obtain⟨N,hN⟩:∃ N,(if beg=true then p.f else nxF S 0 0 fo)=N:=⟨_,rfl⟩
      have hNl:N<2 ^ 64:=by
       rw[← hN]
       split
       · exact pf
       · exact zsj S fo 0 0 (by decide) hfx
      rw[hN] at hnx
      obtain⟨c,hc⟩:∃ c,((Utf8.decode s q).1:Int)=c:=⟨_,rfl⟩
      obtain⟨vl,hvle⟩:∃ vl,vs ((Utf8.decode s q).1:Nat)=vl:=⟨_,rfl⟩
      rw[hvle] at hvc hvl2
      obtain⟨S',hS'⟩:∃ S',rdF (okV vs) c N 0 0 lv=S':=⟨_,rfl⟩
      have key:(S'=0→res=false)∧(S'≠0→zw8 (okV vs) ⟨lv,fo⟩ p.l S' ((rst s (q+(Utf8.decode s q).2)).map (·.r))=res):=by
       rcases i3 with ⟨rfl,rfl,rfl⟩|⟨rfl,i3⟩
       · rw[zAz rfl] at hN
         subst hN
         rw[z2x,hd,List.map_cons,mtF] at hmt
         simp only[hc,hS'] at hmt
         constructor
         · intro h;rw[hmt,zAz h]
         · intro h;rw[hmt,zAy h]
       · rw[zAy (by decide)] at hN
         rw[hd,List.map_cons,zw8] at i3
         simp only[hc,hN,hS'] at i3
         constructor
         · intro h;rw[← i3,zAz h]
         · intro h;rw[zAy h] at i3;exact i3
      have hS'l:S'<2 ^ 64:=by rw[← hS'];exact zu8 _ _ _ hl64 (by decide)
      have hrv:=y6b vs c N lv
      rw[hS',← hc,hvle] at hrv
      have hdl:∀ v:Int,∀ l:List Rg,l.length≤9223372036854775807→z09 Tryz.prog 97 [.d (rgs l),I .i32 v] (B (inB l v)):=fun v l h=>zp4 l h v
      repeat' (first | (apply z03; (first | refine zcf hnx ?_| (refine y40 [] [] [I .i32 ((Utf8.decode s q).1 : Int)] (hvc.at _) rfl rfl (by decide) ?_) /- z5h -/)) | refine z01 ?_ | (apply z10; (refine z1p hlt rfl rfl (by decide) ?_)))
      all_goals try (exfalso;omega)
      refine z0d ?_
      refine z00 (z0p (fun j:Nat × Nat=>⟨88,[(2,.fn (.func g) [] []),(7,.ptr (0,26) 0),(8,I .u64 (j.2:Nat)),(9,B false),(12,I .u64 (N:Nat)),(28,.ptr (0,28) 0),(38,.d (.slice (vl.map zj3))),(39,I .i64 vl.length),(40,I .i64 (j.1:Nat))],[(26,tbx lv p.f p.l fo p.nu),(28,.siter s (q+(Utf8.decode s q).2))],H⟩)
       (fun j=>j.1≤vl.length∧j.2<2 ^ 64∧rdV N lv (vl.drop j.1) j.2=S') (fun j=>vl.length-j.1) ?_ (0,0) ⟨zAf _,by decide,hrv⟩) rfl rfl
      rintro⟨j,A⟩ ⟨m1,m2,m3⟩ ihm
      simp only at m1 m2 m3 ihm ⊢
      by_cases hj:j<vl.length
      · obtain⟨v,hv⟩:∃ v,vl[j]? =some v:=⟨_,zA0 hj⟩
        rw[drop_cons hv,rdV] at m3
        obtain⟨A',hA'⟩:∃ A',rdF (fun c l=>inR l c) v N 0 A lv=A':=⟨_,rfl⟩
        rw[hA'] at m3
        have hvi:(vl.map zj3)[((j:Nat):Int).toNat]? =some (zj3 v):=by simp[hv]
        repeat' (first|(apply z04;(refine z08 (z1f (ys:=vl.map zj3) rfl hvi) rfl rfl ?_))|refine z01 ?_|refine fk (fun _=>?_) (fun _=>?_))
        all_goals try (exfalso;omega)
        refine z0d ?_
        refine z00 (z0p (fun k:Nat × Nat=>⟨88,[(2,.fn (.func g) [] []),(7,.ptr (0,26) 0),(8,I .u64 (k.2:Nat)),(9,B false),(12,I .u64 (N:Nat)),(14,I .i32 v),(28,.ptr (0,28) 0),(38,.d (.slice (vl.map zj3))),(39,I .i64 vl.length),(40,I .i64 (j:Nat)),(47,.d (lvs lv)),(48,I .i64 lv.length),(49,I .i64 (k.1:Nat))],[(26,tbx lv p.f p.l fo p.nu),(28,.siter s (q+(Utf8.decode s q).2))],H⟩)
         (fun k=>k.1≤lv.length∧k.2<2 ^ 64∧rdF (fun c l=>inR l c) v N k.1 k.2 (lv.drop k.1)=A') (fun k=>lv.length-k.1) ?_ (0,A) ⟨zAf _,m2,hA'⟩) rfl rfl
        rintro⟨k,B'⟩ ⟨n1,n2,n3⟩ ihn
        simp only at n1 n2 n3 ihn ⊢
        by_cases hk:k<lv.length
        · obtain⟨l,hl⟩:∃ l,lv[k]? =some l:=⟨_,zA0 hk⟩
          have hlm:=hlv l (zA2 hl)
          have hcl:=hdl v l hlm
          have hli:(lv.map fun r=>[rgs r])[((k:Nat):Int).toNat]? =some [rgs l]:=by simp[hl]
          rw[zn0 _ _ _ hl] at n3
          have hbt:=zqd (S:=N) (i:=k) hNl (by omega)
          have hsh:=y2g (i:=k) (by omega)
          have hp2:2 ^ k<2 ^ 64:=Nat.pow_lt_pow_right (by decide) (by omega)
          have hor:=y00 n2 hp2
          rw[← hsh] at hor
          rw[zq5] at hcl
          by_cases htb:N.testBit k=true
          · rw[zAz htb] at hbt
            cases hin:inR l v with
            | true =>
             rw[zAz ⟨htb,hin⟩] at n3
             rw[hin] at hcl
             have ihn':=ihn (k+1,B' ||| 2 ^ k) ⟨by simp only;omega,Nat.or_lt_two_pow n2 hp2,n3⟩ (by simp only;omega)
             dsimp only at ihn'
             rw[← hor] at ihn'
             all_goals exact zD37
            | false =>
             rw[zAy (fun h=>by rw[hin] at h;cases h.2)] at n3
             rw[hin] at hcl
             have ihn':=ihn (k+1,B') ⟨by simp only;omega,n2,n3⟩ (by simp only;omega)
             repeat' (first|(apply z04;(refine z08 (z1f (ys:=lv.map fun r=>[rgs r]) rfl hli) rfl rfl ?_))|(apply z0o;(first|refine z08 (z8d (by omega)) rfl rfl ?_| refine z08 z3u rfl rfl ?_))|(apply z03;(refine z1n hcl ?_))|refine z01 ?_|refine fk (fun _=>?_) (fun _=>?_))
             all_goals try (exfalso;omega)
             all_goals exact z00 ihn' rfl rfl
          · rw[zAy htb] at hbt
            rw[zAy (fun h=>htb h.1)] at n3
            have ihn':=ihn (k+1,B') ⟨by simp only;omega,n2,n3⟩ (by simp only;omega)
            all_goals exact zD37
        · obtain rfl:k=lv.length:=by omega
          rw[zAs,rdF] at n3
          subst n3
          have ihm':=ihm (j+1,B') ⟨by simp only;omega,n2,m3⟩ (by simp only;omega)
          repeat' (first|refine z01 ?_|refine fk (fun _=>?_) (fun _=>?_))
          all_goals try (exfalso;omega)
          all_goals exact z00 ihm' rfl rfl
      · obtain rfl:j=vl.length:=by omega
        rw[zAs,rdV] at m3
        subst m3
        by_cases hA:A=0
        · subst hA
          have hr:=key.1 rfl
          subst hr
          repeat' (first|refine z01 ?_|refine fk (fun _=>?_) (fun _=>?_))
          all_goals exact zD80
        · have hr:=key.2 hA
          have ih':=ih (q+(Utf8.decode s q).2,A,false) ⟨by simp only;omega,m2,.inr ⟨rfl,hr⟩⟩ (by simp only;omega)
          all_goals exact zD103
    · obtain rfl:q=s.size:=by omega
      have hd:=z3g (s:=s) (i:=s.size) (zAj _)
      rcases i3 with ⟨rfl,h0q,rfl⟩|⟨rfl,i3⟩
      · have hz:rst s 0=[]:=z3g (by omega)
        rw[z2x,hz,List.map_nil,mtF] at hmt
        subst hmt
        cases hnu:p.nu with
        | true =>
         repeat' (first|refine z01 ?_|(apply z10;(refine z2f hlt rfl rfl (by decide) ?_)))
         all_goals exact zD80
        | false =>
         have ha:=zwk (a:=0) (b:=p.l) (by decide) pl
         rw[Nat.zero_and] at ha
         have hfin:(!decide (zbo .u64 ((0:Nat):Int) (p.l:Nat)=0))=false:=by rw[ha];rfl
         all_goals exact zD70
      · rw[hd,List.map_nil,zw8] at i3
        have ha:=zwk i2 pl
        have hfin:(!decide (zbo .u64 (S:Nat) (p.l:Nat)=0))=res:=by
         rw[ha,← i3,← decide_not,decide_eq_decide];omega
        all_goals exact zD70
 · have hne:(decide (val e=0))=false:=zAo h0
   rw[hne,Bool.false_and,Bool.false_and] at hmt
   subst hmt
   obtain⟨op,mn,mx,rs,ks⟩:=e
   rw[z2m] at hval ⊢
   refine z06 Tryz.func63 (by kernel_rfl) rfl (by simp) ?_
   dsimp only[Tryz.f63]
   repeat' (first|(apply z03;(first|refine z1n hval ?_| refine z1n hvd ?_))|refine z01 ?_|refine fk (fun _=>?_) (fun _=>?_))
   all_goals exact zD80
theorem y7d (c:Int):z09 Tryz.prog 64 [I .i32 c] (.d (.slice (([c]:List Int).map zj3))):=by
 refine z0t fun H=>?_
 refine z06 Tryz.func64 (by kernel_rfl) rfl (by simp) ?_
 dsimp only[Tryz.f64]
 repeat' (first|refine z01 ?_|fail)
 all_goals exact z02 Tryz.func64 _ z1d ⟨rfl,rfl⟩
theorem zna (v:Int):(Utf8.encode v).size≤4:=by
 have:=z3q (Utf8.encode v)
 rw[z6l] at this
 have h4:(ecL (zab v)).length≤4:=by
  unfold ecL
  repeat' split
  all_goals simp
 omega
theorem y3q {t:ByteArray} {u:U} (h:rst t 0=[u]):0<t.size∧((Utf8.decode t 0).1:Int)=u.r∧(Utf8.decode t 0).2=t.size:=by
 have h0:0<t.size:=by
  false_or_by_contra
  rw[z3g (by omega)] at h;simp at h
 rw[z5l h0] at h
 simp only[List.cons.injEq] at h
 obtain⟨rfl,h2⟩:=h
 have hw:=z8a t 0 h0
 rw[y1s (by omega)] at h2
 exact⟨h0,rfl,by omega⟩
def C3 (x:Int):List Int:=[x,x-32,x-80]
theorem zoe (c:Int) (hc:Utf8.valid c=true):z09 Tryz.prog 101 [I .i32 c] (.d (.slice ((zjm c).map zj3))):=by
 refine z0t fun H=>?_
 have hse:=zna c
 have hfo:=y15 (Utf8.encode c) (by omega)
 have hfe:=zeg hc
 have hvl:=zd4 hc
 have hre:=y2k (z5t c)
 rw[z6z hvl,← hfe] at hre
 obtain⟨t,ht⟩:∃ t,zb1 (Utf8.encode c)=t:=⟨_,rfl⟩
 have hvar:zjm c=([z5t c,z5t c-32,z5t c-80]:List Int).filter fun v=>decide (0≤v)&&decide (zb1 (Utf8.encode v)=t):=by rw[← ht];rfl
 rw[ht] at hfo hre
 obtain⟨d0,d1,d2⟩:=y3q hre
 simp only at d1
 have hvb:=z30.1 hvl
 obtain⟨r,hr⟩:∃ r,z5t c=r:=⟨_,rfl⟩
 rw[hr] at d1 hvb hvar
 have hcs:[r,r-32,r-80]=C3 r:=rfl
 obtain⟨kp,hkp⟩:∃ kp:Int→Bool,(fun v:Int=>decide (0≤v)&&decide (zb1 (Utf8.encode v)=t))=kp:=⟨_,rfl⟩
 rw[hcs,hkp] at hvar
 refine z06 Tryz.func101 (by kernel_rfl) rfl (by simp) ?_
 dsimp only[Tryz.f101]
 repeat' (first|(apply z03;(refine z1n hfo ?_))|(apply z3t;(refine z08 (z6d rfl rfl) rfl rfl ?_))|refine z01 ?_|(apply z10;(refine z8y rfl rfl rfl (by decide) ?_)))
 all_goals try (exfalso;omega)
 refine z2v 3 1000 21 1 rfl rfl rfl ?_
 refine z0d ?_
 refine z00 (z0p (fun q:Nat × List Int=>⟨43,[(3,.ref (0,1000)),(4,S t),(13,.ptr (0,13) 0)],[(13,.siter t q.1),(1000,.row 21 1 (q.2.map zj3))],H⟩)
  (fun q=>(q.1=0∧q.2=[])∨(q.1=t.size∧q.2=zjm c)) (fun q=>t.size-q.1) ?_ (0,[]) (.inl ⟨rfl,rfl⟩)) rfl rfl
 rintro⟨q,l⟩ i1 ih
 simp only at i1 ih ⊢
 rcases i1 with ⟨rfl,rfl⟩|⟨rfl,rfl⟩
 · repeat' (first|(apply z0o;(refine z08 (z1a (ze7 (by omega) (by omega))) rfl rfl ?_))|refine z01 ?_|(apply z10;(refine z1p d0 rfl rfl (by decide) ?_)))
   all_goals try (exfalso;omega)
   subst d1
   have hl3:(C3 ((Utf8.decode t 0).1:Nat)).length=3:=rfl
   refine z0d ?_
   refine z00 (z0p (fun k:Nat × List Int=>⟨43,[(3,.ref (0,1000)),(4,S t),(13,.ptr (0,13) 0),(22,.d (.slice ((C3 ((Utf8.decode t 0).1:Nat)).map zj3))),(23,I .i64 3),(24,I .i64 (k.1:Nat))],[(13,.siter t t.size),(1000,.row 21 1 (k.2.map zj3))],H⟩)
    (fun k=>k.1≤3∧k.2=((C3 ((Utf8.decode t 0).1:Nat)).take k.1).filter kp) (fun k=>3-k.1) ?_ (0,[]) ⟨zAf _,rfl⟩) rfl (by rw[Nat.zero_add,d2];rfl)
   rintro⟨k,l⟩ ⟨m1,m2⟩ ihk
   simp only at m1 m2 ihk ⊢
   by_cases hk:k<3
   · obtain⟨v,hv⟩:∃ v,(C3 ((Utf8.decode t 0).1:Nat))[k]? =some v:=⟨_,zA0 (by omega)⟩
     have hvi:((C3 ((Utf8.decode t 0).1:Nat)).map zj3)[((k:Nat):Int).toNat]? =some (zj3 v):=by simp[hv]
     have hve:=zna v
     have hfv:=y15 (Utf8.encode v) (by omega)
     have hst:=z62 hv
     have hkv:kp v=(decide (0≤v)&&decide (zb1 (Utf8.encode v)=t)):=by rw[← hkp]
     have hll:l.length≤3:=by
      rw[m2]
      have:=List.length_filter_le kp ((C3 ((Utf8.decode t 0).1:Nat)).take k)
      rw[zAm] at this;omega
     cases hkk:kp v with
     | true =>
      rw[hkk] at hkv
      have hkv':=hkv.symm
      rw[zA7,zA3,zA3] at hkv'
      have ihk':=ihk (k+1,l++[v]) ⟨by simp only;omega,by simp only;rw[hst,List.filter_append,m2];simp[hkk]⟩ (by simp only;omega)
      repeat' (first|(apply z04;(refine z08 (z1f (ys:=(C3 ((Utf8.decode t 0).1:Nat)).map zj3) rfl hvi) rfl rfl ?_))|(apply z1k;(refine z6p (g:=zj3) v rfl ?_))|(apply z03;(refine z1n hfv ?_))|(apply z3t;(refine z08 (z6d rfl rfl) rfl rfl ?_))|refine z01 ?_|refine fk (fun _=>?_) (fun _=>?_))
      all_goals try (exfalso;first|omega|exact absurd hkv'.2 (by assumption))
      all_goals refine z2y 40 1000 ?_
      all_goals exact z00 ihk' rfl rfl
     | false =>
      rw[hkk] at hkv
      have hkn:¬ (0≤v∧zb1 (Utf8.encode v)=t):=fun h=>by
       rw[zAi h.1,zAi h.2] at hkv;cases hkv
      have ihk':=ihk (k+1,l) ⟨by simp only;omega,by simp only;rw[hst,List.filter_append,m2];simp[hkk]⟩ (by simp only;omega)
      repeat' (first|(apply z04;(refine z08 (z1f (ys:=(C3 ((Utf8.decode t 0).1:Nat)).map zj3) rfl hvi) rfl rfl ?_))|(apply z1k;(refine z6p (g:=zj3) v rfl ?_))|(apply z03;(refine z1n hfv ?_))|(apply z3t;(refine z08 (z6d rfl rfl) rfl rfl ?_))|refine z01 ?_|refine fk (fun _=>?_) (fun _=>?_))
      all_goals try (exfalso;first|omega|exact hkn ⟨by assumption,by assumption⟩)
      all_goals exact z00 ihk' rfl rfl
   · obtain rfl:k=3:=by omega
     have m3:l=zjm c:=by rw[m2,hvar];rfl
     subst m3
     have ih':=ih (t.size,zjm c) (.inr ⟨rfl,rfl⟩) (by simp only;omega)
     repeat' (first|refine z01 ?_|fail)
     all_goals exact zD8
 · repeat' (first|refine z01 ?_|(apply z10;(refine z2f (Nat.lt_irrefl _) rfl rfl (by decide) ?_)))
   all_goals try (exfalso;omega)
   refine z0z 1000 rfl ?_
   skip
   all_goals try (exfalso;omega)
   all_goals exact z02 Tryz.func101 _ z1d ⟨rfl,rfl⟩
theorem znd (e:Rx) (hf:fit e) (s:ByteArray) (hs:s.size≤1000000):z09 Tryz.prog 24 [.d (Drx e),S s] (B (mtS (fun c=>[c]) e s)):=by
 have hm:=zpt 64 (fun c=>[c]) (fun c _=>y7d c) (fun c=>by simp) e hf s hs
 obtain⟨b,hb⟩:∃ b,mtS (fun c=>[c]) e s=b:=⟨_,rfl⟩
 rw[hb] at hm ⊢
 obtain⟨op,mn,mx,rs,ks⟩:=e
 rw[z2m] at hm ⊢
 refine z0t fun H=>?_
 refine z06 Tryz.func24 (by kernel_rfl) rfl (by simp) ?_
 dsimp only[Tryz.f24]
 repeat' (first|(apply z03;(refine z1n hm ?_))|refine z01 ?_|fail)
 all_goals exact z02 Tryz.func24 _ z1d ⟨rfl,rfl⟩
theorem zyn (c:Int):(zjm c).length≤3:=List.length_filter_le _ _
theorem zvn (e:Rx) (hf:fit e) (s:ByteArray) (hs:s.size≤1000000):z09 Tryz.prog 74 [.d (Drx e),S s] (B (mtS zjm e s)):=by
 have hm:=zpt 101 zjm zoe zyn e hf s hs
 obtain⟨b,hb⟩:∃ b,mtS zjm e s=b:=⟨_,rfl⟩
 rw[hb] at hm ⊢
 obtain⟨op,mn,mx,rs,ks⟩:=e
 rw[z2m] at hm ⊢
 refine z0t fun H=>?_
 refine z06 Tryz.func74 (by kernel_rfl) rfl (by simp) ?_
 dsimp only[Tryz.f74]
 repeat' (first|(apply z03;(refine z1n hm ?_))|refine z01 ?_|fail)
 all_goals exact z02 Tryz.func74 _ z1d ⟨rfl,rfl⟩
end Go.Proofs.YtmcggompdmngmaaGreatDoor
