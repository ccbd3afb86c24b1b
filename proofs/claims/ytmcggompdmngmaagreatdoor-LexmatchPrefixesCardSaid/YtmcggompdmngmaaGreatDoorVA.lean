/- A part of the proof: L22 to L20. -/
import Derived.Test.YtmcggompdmngmaaGreatDoorVc
import Derived.Test.YtmcggompdmngmaaGreatDoorVf
import Derived.Test.YtmcggompdmngmaaGreatDoorVD
import Derived.Test.YtmcggompdmngmaaGreatDoorVe
import Derived.Test.YtmcggompdmngmaaGreatDoorVb
set_option linter.all false
namespace Go.Proofs.YtmcggompdmngmaaGreatDoor
open Go.Ab Go.Rx Go.Lx Go.Ax
set_option maxHeartbeats 20000000
set_option maxRecDepth 100000
attribute [local irreducible] Run Ops Op1 z13 Val Tr z0d z0w NF Rel z2a z2b z6r
noncomputable def y7n (W:List ByteArray) (a:Au):PV:=if vAu a=0 then .tup [I .i64 (y7b W a),I .i64 0] else .tup [I .i64 0,I .i64 1]
theorem zch {P:Program} {src dst:TypeId} {ty:TypeId} {x:Operand} {k:IntKind} {b:Int} {es:ByteArray} (he:Utf8.encode b=es) {t1 t2:TI} [h1:z0p P src t1] [h2:z0p P dst t2] (hk:t2.kind=.str) (hk1:t1.kind=.int k) :
 Val P (.convert src dst x) ty [(x,I k b)] [] (S es):=he▸z6o hk hk1
section
variable {X:Nat}
theorem zvp (W:List ByteArray) (C:List Nat) (rv:D) (hW:zj9 W) (a:Au) (hf:y7o a) (e0:Nat):z0w Tryz.prog 18 [.ptr (e0,X) 0,.d (auD a)] [((e0,X),lexB W C rv)] [] (y7n W a):=by
 refine z10 fun H hH=>?_
 have hX:=hH ((e0,X),lexB W C rv) (by simp)
 have hva:=zst a hf
 refine z0b Tryz.func18 (by kernel_rfl) rfl (by simp) ?_
 dsimp only[Tryz.f18]
 by_cases h0:vAu a=0
 case neg =>
  rw[y7n,zAy h0]
  generalize vAu a=v at *
  obtain⟨F,A⟩:=a
  repeat' (first|(apply z04;(refine z1w hva ?_))|(apply z3h;(refine z0o z6z ?_))|refine z05 ?_|refine fk (fun _=>?_) (fun _=>?_))
  all_goals try (exfalso;omega)
  all_goals exact z00 Tryz.func18 _ z0x ⟨rfl,rfl⟩
 rw[h0] at hva
 rw[y7n,zAz h0,y7b]
 have hok:=(zt3 h0).1
 have hll:=zln a.F a.A
 have hnm:=zxp a hok
 obtain⟨L,hL⟩:∃ L,z5y a.F a.A=L:=⟨_,rfl⟩
 rw[hL] at hll hnm ⊢
 have hpos:=hok.pos
 obtain⟨F,A⟩:=a
 simp only at hnm hll hpos hL hok
 have hst:=fun (q:Nat) (hq:q<F.length) (c:Int)=>zpv (X:=20) F A L hok hll q hq c 0
 have hrng:=fun (q:Nat) (hq:q<F.length) (c:Int)=>zpn hok L q hq c
 have hL0:L[(0:Int).toNat]? =some (L.getD 0 false):=Go.Lx.getD_some (by show 0<L.length;omega)
 have hsz:=zn3 (X:=X) W C rv (e0+1)
 have hwo:=fun (i:Nat) (hi:i<W.length)=>zt0 (X:=X) W C rv (e0+1) i hi
 have hWl:=hW.len
 have hbX:∀ (n:Nat) (tm:List (Nat × PV)) (hp:Hp),BkE ⟨n,tm,hp,H⟩ [((e0+1,X),lexB W C rv)]:=fun n tm hp=>z06 (m:=(e0+1,X)) hX z56
 by_cases hz:W.length=0∨L.getD 0 false=false
 · rw[zAz hz]
   generalize L.getD 0 false=l0 at *
   repeat' (first | (apply z0a; (refine z0c (z1t (ys := L.map boc) rfl (idx (g := boc) hL0)) rfl rfl ?_)) | (apply z04; (first | refine z0q hsz (hbX _ _ _) ?_| refine z1w hva ?_| (refine za8 rfl (hnm _) (by decide) rfl (fun r H' h => ⟨_, h.1, h.2, rfl, rfl, ?_⟩)) /- z69 -/)) | (apply z3h; (refine z0o z6z ?_)) | refine z05 ?_ | refine fk (fun _ => ?_) (fun _ => ?_))
   all_goals try (exfalso;omega)
   all_goals try (exfalso;simp_all;done)
   all_goals exact z00 Tryz.func18 _ z0x ⟨rfl,rfl⟩
 rw[zAy hz]
 rw[not_or,Bool.not_eq_false] at hz
 obtain⟨hz1,hz2⟩:=hz
 rw[hz2] at hL0
 obtain⟨T,hT⟩:∃ T,1+ztm ⟨F,A⟩ L ByteArray.empty W=T:=⟨_,rfl⟩
 have hTl:T≤5000001:=by
  have:=ztf (a:=⟨F,A⟩) (lv:=L) (W:=W) ByteArray.empty hW.size
  omega
 rw[hT]
 repeat' (first | (apply z0a; (refine z0c (z1t (ys := L.map boc) rfl (idx (g := boc) hL0)) rfl rfl ?_)) | (apply z04; (first | refine z0q hsz (hbX _ _ _) ?_| refine z1w hva ?_| (refine za8 rfl (hnm _) (by decide) rfl (fun r H' h => ⟨_, h.1, h.2, rfl, rfl, ?_⟩)) /- z69 -/)) | (apply z3h; (refine z0o z6z ?_)) | refine z05 ?_ | refine fk (fun _ => ?_) (fun _ => ?_))
 all_goals try (exfalso;omega)
 all_goals try (exfalso;simp_all;done)
 refine z0n ?_
 refine z02 (z11 (fun z:Nat × Nat × ByteArray=>⟨79,[(0,.ptr (e0+1,X) 0),(6,.ptr (0,20) 0),(7,I .i64 (z.2.1:Nat)),(8,S z.2.2),(34,I .i64 W.length),(35,I .i64 (z.1:Nat))],[(20,zw6 F A L)],H⟩) (fun z=>z.1≤W.length∧z.2.1+ztm ⟨F,A⟩ L z.2.2 (W.drop z.1)=T) (fun z=>W.length-z.1) ?_ (0,1,ByteArray.empty) ⟨zAf _,hT⟩) rfl rfl
 rintro⟨n,cnt,b⟩ ⟨i1,i2⟩ ih
 simp only at i1 i2 ih ⊢
 by_cases hlt:n<W.length
 · have hwd:=hwo n hlt
   have hvw:=hW.vld _ (z8f hlt)
   have hsw:=hW.size _ (z8f hlt)
   rw[drop_cons (z4l hlt),ztm] at i2
   generalize wd W n=w at *
   obtain⟨R,hR⟩:∃ R,ztm ⟨F,A⟩ L w (W.drop (n+1))=R:=⟨_,rfl⟩
   rw[hR] at i2
   have ih1:=ih (n+1,T-R,w) ⟨by simp only;omega,by simp only;omega⟩ (by simp only;omega)
   simp only at ih1
   have hRT:R≤T:=by omega
   clear ih
   repeat' (first|(apply z04;(refine z0q hwd (hbX _ _ _) ?_))|refine z05 ?_|refine fk (fun _=>?_) (fun _=>?_)|(apply z14;(refine z7l rfl rfl rfl (by decide) ?_)))
   all_goals try (exfalso;omega)
   refine z0n ?_
   refine z02 (z11 (fun z:Nat × Nat × Nat=>⟨79,[(0,.ptr (e0+1,X) 0),(6,.ptr (0,20) 0),(7,I .i64 (z.2.2:Nat)),(8,S b),(34,I .i64 W.length),(35,I .i64 (n:Nat)),(10,S w),(12,I .i64 (z.2.1:Nat)),(45,.ptr (0,45) 0)],[(45,.siter w z.1),(20,zw6 F A L)],H⟩)
    (fun z=>z.1≤w.size∧z.2.1<F.length∧(∀ u∈rst w z.1,u.n=zE u.r)∧z.2.2+(((lvP ⟨F,A⟩ L z.2.1 ((rst w z.1).map (·.r)) z.1).filter (ztn b w)).length+R)=T) (fun z=>w.size-z.1) ?_ (0,0,cnt) ⟨zAf _,hpos,zi7 hvw,i2⟩) rfl rfl
   rintro⟨i,q,ct⟩ ⟨j1,j2,j3,j4⟩ ih
   simp only at j1 j2 j3 j4 ih ⊢
   by_cases hlt2:i<w.size
   · have hd:=z3b hlt2
     have hw:=z5r w i hlt2
     have hdh:=zb1 w i
     rw[hd] at j3 j4
     have hwz:=j3 _ (List.mem_cons_self ..)
     simp only at hwz
     rw[List.map_cons,lvP] at j4
     simp only at j4
     have hst1:=hst q j2 ((Utf8.decode w i).1:Nat)
     have hes:=zyx ((Utf8.decode w i).1:Nat)
     by_cases hg:stL ⟨F,A⟩ L q ((Utf8.decode w i).1:Nat)<0
     · rw[zAz hg,List.filter_nil,List.length_nil] at j4
       rw[show T-R=ct by omega] at ih1
       clear ih
       have hm1:stL ⟨F,A⟩ L q ((Utf8.decode w i).1:Nat)=-1:=by
        rw[stL] at hg ⊢
        split
        · rename_i g;rw[zAz g] at hg;omega
        · rfl
       rw[hm1] at hst1
       repeat' (first|(apply z04;(refine z73 hst1 rfl (z06 (m:=(0,20)) rfl z56) (by decide) ?_))|refine z05 ?_|(apply z14;(refine z1q hlt2 rfl rfl (by decide) ?_)))
       all_goals try (exfalso;omega)
       all_goals exact z02 ih1 rfl rfl
     · rw[zAy hg] at j4
       obtain⟨p,hp1,hp2⟩:=hrng q j2 _ hg
       rw[hp1,← hes,List.filter_cons] at j4
       rw[hp1] at hst1
       have hee:i+(Utf8.encode ((Utf8.decode w i).1:Nat)).size≤w.size:=by
        rw[hes,← hwz];omega
       have hie:i+(Utf8.decode w i).2=i+(Utf8.encode ((Utf8.decode w i).1:Nat)).size:=by rw[hes,← hwz]
       have hto:(((i:Nat):Int)+(((Utf8.encode ((Utf8.decode w i).1:Nat)).size:Nat):Int)).toNat=i+(Utf8.decode w i).2:=by omega
       have hyes:=zv4 (b:=b) (w:=w) (e:=i+(Utf8.decode w i).2)
       have heq:=y1c (b:=b) (w:=w) (e:=i+(Utf8.decode w i).2)
       have j3':=fun u hu=>j3 u (List.mem_cons_of_mem _ hu)
       rw[← hie] at j4
       have ih':=fun (b2:Bool) (hb2:ztn b w (i+(Utf8.decode w i).2)=b2)=>ih (i+(Utf8.decode w i).2,p,if b2=true then ct+1 else ct) ⟨by simp only;omega,hp2,j3',by simp only;rw[← j4,hb2];cases b2 with|true=>(rw[zAz rfl,zAz rfl,zAk];omega)|false=>(rw[zAy Bool.false_ne_true,zAy Bool.false_ne_true])⟩ (by simp only;omega)
       simp only at ih'
       have hctT:ct<T∨ztn b w (i+(Utf8.decode w i).2)=false:=by
        cases hb3:ztn b w (i+(Utf8.decode w i).2) with
        | false=>exact .inr rfl
        | true=>left;rw[hb3,zAz rfl,zAk] at j4;omega
       clear hes hwz hp1 hg ih1 j3 ih j4 j3'
       obtain⟨es,hes0⟩:∃ es,Utf8.encode ((Utf8.decode w i).1:Nat)=es:=⟨_,rfl⟩
       rw[hes0] at hto hie hee
       by_cases c1:b.size<i+(Utf8.decode w i).2
       · have ih2:=ih' true (hyes c1)
         rw[zAz rfl] at ih2
         rw[hyes c1] at hctT
         have hct2:ct<T:=by rcases hctT with g|g;exact g;cases g
         repeat' (first|(apply z4w;(refine z0l (z9o rfl (by omega) (by omega)) rfl rfl ?_))|(apply z04;(refine z73 hst1 rfl (z06 (m:=(0,20)) rfl z56) (by decide) ?_))|(apply z4s;(refine z0c (zch hes0 rfl rfl) rfl rfl ?_))|refine z05 ?_|refine fk (fun _=>?_) (fun _=>?_)|(apply z14;(refine z1q hlt2 rfl rfl (by decide) ?_))|(refine z1c (fun hg=>?_) (fun hg=>?_)<;> simp only[hg] <;> (try simp only[zA3,zA5,zA6,zA8] at hg)))
         all_goals try (exfalso;omega)
         all_goals exact z02 ih2 rfl rfl
       · rw[heq c1] at hctT ih'
         by_cases c2:b.extract 0 (i+(Utf8.decode w i).2)=w.extract 0 (i+(Utf8.decode w i).2)
         · have ih2:=ih' false (by rw[zAi c2];rfl)
           rw[zAy (by decide)] at ih2
           exact zD31
         · rw[zAo c2] at hctT ih'
           have ih2:=ih' true rfl
           rw[zAz rfl] at ih2
           have hct2:ct<T:=by rcases hctT with g|g;exact g;cases g
           exact zD31
   · obtain rfl:i=w.size:=by omega
     rw[z1y (zAj _),List.map_nil,lvP,List.filter_nil,List.length_nil] at j4
     rw[show T-R=ct by omega] at ih1
     clear ih
     repeat' (first|refine z05 ?_|(apply z14;(refine z1i hlt2 rfl rfl (by decide) ?_)))
     all_goals try (exfalso;omega)
     all_goals exact z02 ih1 rfl rfl
 · obtain rfl:n=W.length:=by omega
   rw[zAs,ztm,Nat.add_zero] at i2
   rw[← i2]
   clear ih
   repeat' (first|refine z05 ?_|refine fk (fun _=>?_) (fun _=>?_))
   all_goals try (exfalso;omega)
   all_goals exact z00 Tryz.func18 _ z0x ⟨rfl,rfl⟩
end
abbrev spc (p:Int × Int):List D:=[.lit (.int .i64 p.1),.lit (.int .i64 p.2)]
abbrev spD (o:List (Int × Int)):D:=.slice (o.map spc)
def spR (l:List Int):PV:=.tup [.d (spD (zk6 none [] l).1),I .i64 (zk6 none [] l).2]
theorem zuu {pre:List (Int × Int)} {b k:Int}:y2p (pre++[(b,k)]) k=pre++[(b,k+1)]:=by
 rw[y2p,List.getLast?_concat];simp
theorem zx1 {pre:List (Int × Int)} {b e k:Int} (h:¬e=k):y2p (pre++[(b,e)]) k=pre++[(b,e)]++[(k,k+1)]:=by
 rw[y2p,List.getLast?_concat];simp[h]
theorem zjc {pre:List (Int × Int)} {p:Int × Int}:(pre++[p])[((((pre++[p]).length:Nat):Int)-1).toNat]? =some p:=by
 exact zD109
theorem y0h {pre:List (Int × Int)} {p v:Int × Int}:(pre++[p]).set ((((pre++[p]).length:Nat):Int)-1).toNat v=pre++[v]:=by
 exact zD109
structure SpI (l:List Int) (res:List (Int × Int) × Int) (i:Nat) (o:List (Int × Int)):Prop where
 le:i≤l.length
 ol:o.length≤i
 cs:(i=0∧o=[]∧zk6 none [] l=res)∨∃ j pre b pr,i=j+1∧l[j]? =some pr∧o=pre++[(b,pr+1)]∧0≤pr∧pr≤2147483646∧zk6 (some pr) o (l.drop i)=res
theorem zhr (l:List Int) (hl:l.length≤1000000):z0d Tryz.prog 26 [.d (inD l)] (spR l):=by
 refine z1a fun H=>?_
 refine z0b Tryz.func26 (by kernel_rfl) rfl (by simp) ?_
 dsimp only[Tryz.f26]
 rw[spR]
 obtain⟨res,hres⟩:∃ r,zk6 none [] l=r:=⟨_,rfl⟩
 rw[hres]
 repeat' (first|refine z05 ?_|fail)
 all_goals try (exfalso;omega)
 refine z1z 4 1000 70 2 rfl rfl rfl ?_
 refine z0n ?_
 refine z02 (z11 (fun q:Nat × List (Int × Int)=>⟨65,[(0,.d (inD l)),(7,.d (inD l)),(8,I .i64 l.length),(9,I .i64 (q.1:Nat)),(4,.ref (0,1000))],[(1000,.row 70 2 (q.2.map spc))],H⟩) (fun q=>SpI l res q.1 q.2) (fun q=>l.length-q.1) ?_ (0,[]) ⟨zAf _,zAj _,.inl ⟨rfl,rfl,hres⟩⟩) rfl rfl
 rintro⟨i,out⟩ ⟨i1,i3,i2⟩ ih
 simp only at i1 i2 i3 ih ⊢
 by_cases hlt:i<l.length
 · obtain⟨k,hk⟩:∃ r,l[i]? =some r:=⟨_,zA0 hlt⟩
   rcases i2 with ⟨rfl,rfl,i4⟩|⟨j,pre,b,pr,rfl,j1,rfl,j2,j3,i4⟩
   · have hd:l=k::l.drop 1:=by rw[← drop_cons hk];rfl
     rw[hd,zk6] at i4
     by_cases hc:k<0∨2147483646<k
     · exact zD63
     · rw[zAy hc,zAy (by simp[Lx.zo3])] at i4
       have ih':=ih (1,[(k,k+1)]) ⟨by simp only;omega,by simp,.inr ⟨0,[],k,k,rfl,hk,rfl,by omega,by omega,i4⟩⟩ (by simp only;omega)
       simp only at ih'
       repeat' (first|(apply z0a;(refine z0c (z1t (ys:=l.map ic) rfl (idx hk)) rfl rfl ?_))|(apply z1m;(refine z3r (q:=([]:List (Int × Int))) (g:=spc) rfl rfl (k,k+1) rfl rfl rfl rfl rfl rfl rfl (by decide) (by simp) ?_))|refine z05 ?_|refine fk (fun _=>?_) (fun _=>?_))
       all_goals exact zD146
   · rw[drop_cons hk,zk6] at i4
     have hla:((pre++[(b,pr+1)]).length:Int)=pre.length+1:=by simp
     have j4:l[(((j+1:Nat):Int)-1).toNat]? =some pr:=by rw[show (((j+1:Nat):Int)-1).toNat=j by omega];exact j1
     have hpl:pre.length≤j:=by have:(pre++[(b,pr+1)]).length=pre.length+1:=by simp
                               omega
     by_cases hc:k<0∨2147483646<k
     · exact zD63
     · rw[zAy hc] at i4
       by_cases hb:k≤pr
       · rw[zAz (by simp[Lx.zo3];exact hb)] at i4
         obtain rfl:=i4
         repeat' (first|(apply z0a;(first|refine z0c (z1t (ys:=l.map ic) rfl (idx hk)) rfl rfl ?_| refine z0c (z1t (ys:=l.map ic) rfl (zoj j4)) rfl rfl ?_))|refine z05 ?_|refine fk (fun _=>?_) (fun _=>?_))
         all_goals try (exfalso;omega)
         all_goals refine znl 2 rfl ?_
         all_goals exact z00 Tryz.func26 _ z0x ⟨rfl,rfl⟩
       · rw[zAy (by simp[Lx.zo3];omega)] at i4
         by_cases hj:k=pr+1
         · subst hj
           rw[zuu] at i4
           have ih':=ih (j+1+1,pre++[(b,pr+1+1)]) ⟨by simp only;omega,by simp;omega,.inr ⟨j+1,pre,b,pr+1,rfl,hk,rfl,by omega,by omega,i4⟩⟩ (by simp only;omega)
           simp only at ih'
           repeat' (first|(apply z0i;(refine z0c (z0j zjc) rfl rfl ?_))|(apply z0a;(first|refine z0c (z1t (ys:=l.map ic) rfl (idx hk)) rfl rfl ?_| refine z0c (z1t (ys:=l.map ic) rfl (zoj j4)) rfl rfl ?_| refine z0c (z1j rfl (by rw[zA4];omega)) rfl rfl ?_))|(apply z0m;(refine zbe (b,pr+1+1) zjc y0h ?_))|refine z05 ?_|refine fk (fun _=>?_) (fun _=>?_))
           all_goals exact zD11
         · rw[zx1 (by omega)] at i4
           have ih':=ih (j+1+1,pre++[(b,pr+1)]++[(k,k+1)]) ⟨by simp only;omega,by simp;omega,.inr ⟨j+1,pre++[(b,pr+1)],k,k,rfl,hk,rfl,by omega,by omega,i4⟩⟩ (by simp only;omega)
           simp only at ih'
           repeat' (first|(apply z0i;(refine z0c (z0j zjc) rfl rfl ?_))|(apply z0a;(first|refine z0c (z1t (ys:=l.map ic) rfl (idx hk)) rfl rfl ?_| refine z0c (z1t (ys:=l.map ic) rfl (zoj j4)) rfl rfl ?_| refine z0c (z1j rfl (by rw[zA4];omega)) rfl rfl ?_))|(apply z1m;(refine z4n (g:=spc) (k,k+1) rfl ?_))|refine z05 ?_|refine fk (fun _=>?_) (fun _=>?_))
           all_goals exact zD146
 · obtain rfl:i=l.length:=by omega
   have hout:(out,(0:Int))=res:=by
    rcases i2 with ⟨h1,rfl,i4⟩|⟨j,pre,b,pr,h1,j1,rfl,j2,j3,i4⟩
    · rw[List.length_eq_zero_iff.1 h1] at i4;rw[← i4];rfl
    · rw[zAs,zk6] at i4;exact i4
   rw[← hout]
   clear ih
   refine z0z 1000 rfl ?_
   repeat' (first|refine z05 ?_|refine fk (fun _=>?_) (fun _=>?_))
   all_goals try (exfalso;omega)
   all_goals exact z00 Tryz.func26 _ z0x ⟨rfl,rfl⟩
theorem y9d (r s:Int × Int) (w:World):(Go.Op.equalIn 10000 70 (.agg #[.int .i64 r.1,.int .i64 r.2]) (.agg #[.int .i64 s.1,.int .i64 s.2]):Sem Bool).run Tryz.prog w=.ok (decide (r=s)) w:=by
 have hf:(Tryz.prog.fieldsOf 70).toList.map (fun f=>(f.name == "_",f.type,f.offset))=[(false,3,0),(false,3,1)]:=by kernel_rfl
 have hu:Tryz.prog.underlying 70=some (.struct (Tryz.prog.fieldsOf 70)):=by kernel_rfl
 have hs:Tryz.prog.stoodInHeld 70=false:=by kernel_rfl
 have hint3:Tryz.prog.underlying 3=some (.int .i64):=T3.int rfl
 have ha4:∀ w,(isAgg 3).run Tryz.prog w=.ok false w:=fun w=>T3.isAgg w
 rw[run_equalIn_struct w 9999 70 _ _ hu hs]
 generalize (Tryz.prog.fieldsOf 70).toList=fs at hf
 obtain⟨f1,f2,rfl⟩:∃ f1 f2,fs=[f1,f2]:=by
  have hl:=congrArg List.length hf
  simp only[zA4,zAk,List.length_nil] at hl
  match fs,hl with
  | [a,b],_=>exact⟨a,b,rfl⟩
 simp only[List.map_cons,List.map_nil,List.cons.injEq,Prod.mk.injEq,beq_eq_false_iff_ne,ne_eq,and_true] at hf
 obtain⟨⟨n1,t1,o1⟩,n2,t2,o2⟩:=hf
 obtain⟨r1,r2⟩:=r
 obtain⟨s1,s2⟩:=s
 simp only[Op.eqFields,n1,n2,ne_eq,not_false_eq_true,if_true,t1,t2,o1,o2,part,Sem.run_bind,ha4,Result.andThen_ok,Bool.false_eq_true,if_false]
 by_cases g1:r1=s1 <;> by_cases g2:r2=s2 <;> simp[run_equalIn_int _ _ _ _ _ _ _ hint3,g1,g2,ha4]
theorem y9z {x y:Operand} (r s:Int × Int) (w:World) (own:Nat→Prop) (us vs:List Value) (hu:DR w own (.agg (spc r)) (.agg us.toArray)) (hv:DR w own (.agg (spc s)) (.agg vs.toArray)) :
 (do eqGuard .eql 70 x y (.agg us.toArray) (.agg vs.toArray);binOp .eql 70 (.agg us.toArray) (.agg vs.toArray):Sem Value).run Tryz.prog w=.ok (.bool (decide (r=s))) w:=by
 have e1:=DR.lits (xs:=[.int .i64 r.1,.int .i64 r.2]) hu
 have e2:=DR.lits (xs:=[.int .i64 s.1,.int .i64 s.2]) hv
 subst e1 e2
 have hg:Tryz.prog.eqGuardType Tryz.prog.depth 70=false:=by kernel_rfl
 have h:=y9d r s w
 rw[Sem.run_bind,run_eqGuard_agg _ _ _ _ _ _ _ hg,Result.andThen_ok,run_eql_struct]
 rw[h];rfl
end Go.Proofs.YtmcggompdmngmaaGreatDoor
