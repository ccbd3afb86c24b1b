/- A part of the proof: L22 to L22. -/
import Derived.Test.YtmcggompdmngmaaGreatDoorYc
import Derived.Test.YtmcggompdmngmaaGreatDoorYf
import Derived.Test.YtmcggompdmngmaaGreatDoorYD
set_option linter.all false
namespace Go.Proofs.YtmcggompdmngmaaGreatDoor
open Go.Ab Go.Rx Go.Lx Go.Ax
set_option maxHeartbeats 20000000
set_option maxRecDepth 100000
attribute [local irreducible] Run Ops Op1 z0u Val Tr z09 z0q NF Rel z1v z1u z5p
noncomputable def ya7 (W:List ByteArray) (a:Au):PV:=if vAu a=0 then .tup [I .i64 (ya9 W a),I .i64 0] else .tup [I .i64 0,I .i64 1]
theorem zdc {P:Program} {src dst:TypeId} {ty:TypeId} {x:Operand} {k:IntKind} {b:Int} {es:ByteArray} (he:Utf8.encode b=es) {t1 t2:TI} [h1:z0j P src t1] [h2:z0j P dst t2] (hk:t2.kind=.str) (hk1:t1.kind=.int k) :
 Val P (.convert src dst x) ty [(x,I k b)] [] (S es):=he▸z6d hk hk1
section
variable {X:Nat}
theorem zyr (W:List ByteArray) (C:List Nat) (rv:D) (hW:zkr W) (a:Au) (hf:ya5 a) (e0:Nat):z0q Tryz.prog 18 [.ptr (e0,X) 0,.d (auD a)] [((e0,X),lexB W C rv)] [] (ya7 W a):=by
 refine z0v fun H hH=>?_
 have hX:=hH ((e0,X),lexB W C rv) (by simp)
 have hva:=zsk a hf
 refine z06 Tryz.func18 (by kernel_rfl) rfl (by simp) ?_
 dsimp only[Tryz.f18]
 by_cases h0:vAu a=0
 case neg =>
  rw[ya7,zAy h0]
  generalize vAu a=v at *
  obtain⟨F,A⟩:=a
  repeat' (first|(apply z03;(refine z1n hva ?_))|(apply z2c;(refine z0h z4x ?_))|refine z01 ?_|refine fk (fun _=>?_) (fun _=>?_))
  all_goals try (exfalso;omega)
  all_goals exact z02 Tryz.func18 _ z2j ⟨rfl,rfl⟩
 rw[h0] at hva
 rw[ya7,zAz h0,ya9]
 have hok:=(zul h0).1
 have hll:=zls a.F a.A
 have hnm:=zzx a hok
 obtain⟨L,hL⟩:∃ L,z6a a.F a.A=L:=⟨_,rfl⟩
 rw[hL] at hll hnm ⊢
 have hpos:=hok.pos
 obtain⟨F,A⟩:=a
 simp only at hnm hll hpos hL hok
 have hst:=fun (q:Nat) (hq:q<F.length) (c:Int)=>ztr (X:=20) F A L hok hll q hq c 0
 have hrng:=fun (q:Nat) (hq:q<F.length) (c:Int)=>zrf hok L q hq c
 have hL0:L[(0:Int).toNat]? =some (L.getD 0 false):=Go.Lx.getD_some (by show 0<L.length;omega)
 have hsz:=zlr (X:=X) W C rv (e0+1)
 have hwo:=fun (i:Nat) (hi:i<W.length)=>zsw (X:=X) W C rv (e0+1) i hi
 have hWl:=hW.len
 have hbX:∀ (n:Nat) (tm:List (Nat × PV)) (hp:Hp),BkE ⟨n,tm,hp,H⟩ [((e0+1,X),lexB W C rv)]:=fun n tm hp=>z1m (m:=(e0+1,X)) hX z5c
 by_cases hz:W.length=0∨L.getD 0 false=false
 · rw[zAz hz]
   generalize L.getD 0 false=l0 at *
   repeat' (first | (apply z04; (refine z08 (z1f (ys := L.map boc) rfl (idx (g := boc) hL0)) rfl rfl ?_)) | (apply z03; (first | refine z3k hsz (hbX _ _ _) ?_| refine z1n hva ?_| (refine za7 rfl (hnm _) (by decide) rfl (fun r H' h => ⟨_, h.1, h.2, rfl, rfl, ?_⟩)) /- z5h -/)) | (apply z2c; (refine z0h z4x ?_)) | refine z01 ?_ | refine fk (fun _ => ?_) (fun _ => ?_))
   all_goals try (exfalso;omega)
   all_goals try (exfalso;simp_all;done)
   all_goals exact z02 Tryz.func18 _ z2j ⟨rfl,rfl⟩
 rw[zAy hz]
 rw[not_or,Bool.not_eq_false] at hz
 obtain⟨hz1,hz2⟩:=hz
 rw[hz2] at hL0
 obtain⟨T,hT⟩:∃ T,1+zuv ⟨F,A⟩ L ByteArray.empty W=T:=⟨_,rfl⟩
 have hTl:T≤5000001:=by
  have:=zsr (a:=⟨F,A⟩) (lv:=L) (W:=W) ByteArray.empty hW.size
  omega
 rw[hT]
 repeat' (first | (apply z04; (refine z08 (z1f (ys := L.map boc) rfl (idx (g := boc) hL0)) rfl rfl ?_)) | (apply z03; (first | refine z3k hsz (hbX _ _ _) ?_| refine z1n hva ?_| (refine za7 rfl (hnm _) (by decide) rfl (fun r H' h => ⟨_, h.1, h.2, rfl, rfl, ?_⟩)) /- z5h -/)) | (apply z2c; (refine z0h z4x ?_)) | refine z01 ?_ | refine fk (fun _ => ?_) (fun _ => ?_))
 all_goals try (exfalso;omega)
 all_goals try (exfalso;simp_all;done)
 refine z0d ?_
 refine z00 (z0p (fun z:Nat × Nat × ByteArray=>⟨79,[(0,.ptr (e0+1,X) 0),(6,.ptr (0,20) 0),(7,I .i64 (z.2.1:Nat)),(8,S z.2.2),(34,I .i64 W.length),(35,I .i64 (z.1:Nat))],[(20,zxo F A L)],H⟩) (fun z=>z.1≤W.length∧z.2.1+zuv ⟨F,A⟩ L z.2.2 (W.drop z.1)=T) (fun z=>W.length-z.1) ?_ (0,1,ByteArray.empty) ⟨zAf _,hT⟩) rfl rfl
 rintro⟨n,cnt,b⟩ ⟨i1,i2⟩ ih
 simp only at i1 i2 ih ⊢
 by_cases hlt:n<W.length
 · have hwd:=hwo n hlt
   have hvw:=hW.vld _ (z8i hlt)
   have hsw:=hW.size _ (z8i hlt)
   rw[drop_cons (z43 hlt),zuv] at i2
   generalize wd W n=w at *
   obtain⟨R,hR⟩:∃ R,zuv ⟨F,A⟩ L w (W.drop (n+1))=R:=⟨_,rfl⟩
   rw[hR] at i2
   have ih1:=ih (n+1,T-R,w) ⟨by simp only;omega,by simp only;omega⟩ (by simp only;omega)
   simp only at ih1
   have hRT:R≤T:=by omega
   clear ih
   repeat' (first|(apply z03;(refine z3k hwd (hbX _ _ _) ?_))|refine z01 ?_|refine fk (fun _=>?_) (fun _=>?_)|(apply z10;(refine z8y rfl rfl rfl (by decide) ?_)))
   all_goals try (exfalso;omega)
   refine z0d ?_
   refine z00 (z0p (fun z:Nat × Nat × Nat=>⟨79,[(0,.ptr (e0+1,X) 0),(6,.ptr (0,20) 0),(7,I .i64 (z.2.2:Nat)),(8,S b),(34,I .i64 W.length),(35,I .i64 (n:Nat)),(10,S w),(12,I .i64 (z.2.1:Nat)),(45,.ptr (0,45) 0)],[(45,.siter w z.1),(20,zxo F A L)],H⟩)
    (fun z=>z.1≤w.size∧z.2.1<F.length∧(∀ u∈rst w z.1,u.n=zE u.r)∧z.2.2+(((lvP ⟨F,A⟩ L z.2.1 ((rst w z.1).map (·.r)) z.1).filter (zv1 b w)).length+R)=T) (fun z=>w.size-z.1) ?_ (0,0,cnt) ⟨zAf _,hpos,zhz hvw,i2⟩) rfl rfl
   rintro⟨i,q,ct⟩ ⟨j1,j2,j3,j4⟩ ih
   simp only at j1 j2 j3 j4 ih ⊢
   by_cases hlt2:i<w.size
   · have hd:=z5l hlt2
     have hw:=z8a w i hlt2
     have hdh:=zei w i
     rw[hd] at j3 j4
     have hwz:=j3 _ (List.mem_cons_self ..)
     simp only at hwz
     rw[List.map_cons,lvP] at j4
     simp only at j4
     have hst1:=hst q j2 ((Utf8.decode w i).1:Nat)
     have hes:=y0b ((Utf8.decode w i).1:Nat)
     by_cases hg:stL ⟨F,A⟩ L q ((Utf8.decode w i).1:Nat)<0
     · rw[zAz hg,List.filter_nil,List.length_nil] at j4
       rw[show T-R=ct by omega] at ih1
       clear ih
       have hm1:stL ⟨F,A⟩ L q ((Utf8.decode w i).1:Nat)=-1:=by
        rw[stL] at hg ⊢
        split
        · rename_i g;rw[zAz g] at hg;omega
        · rfl
       rw[hm1] at hst1
       repeat' (first|(apply z03;(refine z71 hst1 rfl (z1m (m:=(0,20)) rfl z5c) (by decide) ?_))|refine z01 ?_|(apply z10;(refine z1p hlt2 rfl rfl (by decide) ?_)))
       all_goals try (exfalso;omega)
       all_goals exact z00 ih1 rfl rfl
     · rw[zAy hg] at j4
       obtain⟨p,hp1,hp2⟩:=hrng q j2 _ hg
       rw[hp1,← hes,List.filter_cons] at j4
       rw[hp1] at hst1
       have hee:i+(Utf8.encode ((Utf8.decode w i).1:Nat)).size≤w.size:=by
        rw[hes,← hwz];omega
       have hie:i+(Utf8.decode w i).2=i+(Utf8.encode ((Utf8.decode w i).1:Nat)).size:=by rw[hes,← hwz]
       have hto:(((i:Nat):Int)+(((Utf8.encode ((Utf8.decode w i).1:Nat)).size:Nat):Int)).toNat=i+(Utf8.decode w i).2:=by omega
       have hyes:=zyq (b:=b) (w:=w) (e:=i+(Utf8.decode w i).2)
       have heq:=y48 (b:=b) (w:=w) (e:=i+(Utf8.decode w i).2)
       have j3':=fun u hu=>j3 u (List.mem_cons_of_mem _ hu)
       rw[← hie] at j4
       have ih':=fun (b2:Bool) (hb2:zv1 b w (i+(Utf8.decode w i).2)=b2)=>ih (i+(Utf8.decode w i).2,p,if b2=true then ct+1 else ct) ⟨by simp only;omega,hp2,j3',by simp only;rw[← j4,hb2];cases b2 with|true=>(rw[zAz rfl,zAz rfl,zAk];omega)|false=>(rw[zAy Bool.false_ne_true,zAy Bool.false_ne_true])⟩ (by simp only;omega)
       simp only at ih'
       have hctT:ct<T∨zv1 b w (i+(Utf8.decode w i).2)=false:=by
        cases hb3:zv1 b w (i+(Utf8.decode w i).2) with
        | false=>exact .inr rfl
        | true=>left;rw[hb3,zAz rfl,zAk] at j4;omega
       clear hes hwz hp1 hg ih1 j3 ih j4 j3'
       obtain⟨es,hes0⟩:∃ es,Utf8.encode ((Utf8.decode w i).1:Nat)=es:=⟨_,rfl⟩
       rw[hes0] at hto hie hee
       by_cases c1:b.size<i+(Utf8.decode w i).2
       · have ih2:=ih' true (hyes c1)
         rw[zAz rfl] at ih2
         rw[hyes c1] at hctT
         have hct2:ct<T:=by rcases hctT with g|g;exact g;cases g
         repeat' (first|(apply z4o;(refine z0f (z95 rfl (by omega) (by omega)) rfl rfl ?_))|(apply z03;(refine z71 hst1 rfl (z1m (m:=(0,20)) rfl z5c) (by decide) ?_))|(apply z3t;(refine z08 (zdc hes0 rfl rfl) rfl rfl ?_))|refine z01 ?_|refine fk (fun _=>?_) (fun _=>?_)|(apply z10;(refine z1p hlt2 rfl rfl (by decide) ?_))|(refine z19 (fun hg=>?_) (fun hg=>?_)<;> simp only[hg] <;> (try simp only[zA3,zA5,zA6,zA8] at hg)))
         all_goals try (exfalso;omega)
         all_goals exact z00 ih2 rfl rfl
       · rw[heq c1] at hctT ih'
         by_cases c2:b.extract 0 (i+(Utf8.decode w i).2)=w.extract 0 (i+(Utf8.decode w i).2)
         · have ih2:=ih' false (by rw[zAi c2];rfl)
           rw[zAy (by decide)] at ih2
           exact zD24
         · rw[zAo c2] at hctT ih'
           have ih2:=ih' true rfl
           rw[zAz rfl] at ih2
           have hct2:ct<T:=by rcases hctT with g|g;exact g;cases g
           exact zD24
   · obtain rfl:i=w.size:=by omega
     rw[z3g (zAj _),List.map_nil,lvP,List.filter_nil,List.length_nil] at j4
     rw[show T-R=ct by omega] at ih1
     clear ih
     repeat' (first|refine z01 ?_|(apply z10;(refine z2f hlt2 rfl rfl (by decide) ?_)))
     all_goals try (exfalso;omega)
     all_goals exact z00 ih1 rfl rfl
 · obtain rfl:n=W.length:=by omega
   rw[zAs,zuv,Nat.add_zero] at i2
   rw[← i2]
   clear ih
   repeat' (first|refine z01 ?_|refine fk (fun _=>?_) (fun _=>?_))
   all_goals try (exfalso;omega)
   all_goals exact z02 Tryz.func18 _ z2j ⟨rfl,rfl⟩
end
end Go.Proofs.YtmcggompdmngmaaGreatDoor
