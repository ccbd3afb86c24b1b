/- A part of the proof: D1 to D3. -/
import Derived.Test.YthdfkabdoidjfaaGreatDoorS2
import Derived.Test.YthdfkabdoidjfaaGreatDoorSh
import Derived.Test.YthdfkabdoidjfaaGreatDoorSi
import Derived.Test.YthdfkabdoidjfaaGreatDoorSc
set_option linter.all false
namespace Go.Proofs.YthdfkabdoidjfaaGreatDoor
open Go.Ab Go.Ax Go.Rx
set_option maxHeartbeats 20000000
set_option maxRecDepth 100000
attribute [local irreducible] Run Ops Op1 z25 Val Tr z0y z1x NF Rel z3j z3l
theorem y56 {α:Type} {g:α→List D} {q:List α} {a:Int} {x:α} (h:q[a.toNat]? =some x):(q.map g)[a.toNat]? =some (g x):=by
 rw[zAd,h];rfl
theorem zi7 (x:Arc):zsm x=z8u x:=rfl
theorem zys {q:Nat} {d:Int} {N:List Int} {c:Bool} {x:Arc} {l:List Arc} {v w:Int} (hv:N[q]? =some v) (hw:N[x.2.2.toNat]? =some w) (h1:v<0) (h2:w=d-1) (h3:0≤z8u x):zka q d (x::l) (N,c)=zka q d l (N.set q d,true):=by
 rw[zka,List.foldl_cons,zzc,zov,getD_some hv,getD_some hw,zAz ⟨h1,by rw[zAi h2,zAi h3];rfl⟩];rfl
theorem zq7 {q:Nat} {d:Int} {N:List Int} {c:Bool} {x:Arc} {l:List Arc} {v w:Int} (hv:N[q]? =some v) (hw:N[x.2.2.toNat]? =some w) (h:¬ (v<0∧w=d-1∧0≤z8u x)):zka q d (x::l) (N,c)=zka q d l (N,c):=by
 rw[zka,List.foldl_cons,zzc,zov,getD_some hv,getD_some hw,zAy (fun g=>h ⟨g.1,by have:=g.2;rw[zA7,zA3,zA3] at this;exact this⟩)];rfl
theorem zpm {F:List Bool} {q:Nat} {b:Bool} (hb:F[q]? =some b):(zj7 F).take (q+1)=(zj7 F).take q++[if b=true then 0 else -1]:=by
 rw[List.take_add_one]
 congr 1
 simp[zj7,hb]
theorem zd9 (q:Nat) (d:Int):∀ (l:List Arc) (s:List Int × Bool),(zka q d l s).1.length=s.1.length
 | [],s=>rfl
 | x::l,s=>by
  show (zka q d l (zzc q d s x)).1.length=_
  rw[zd9 q d l,zzc]
  split
  · exact List.length_set
  · rfl
theorem zkm {a:Au} (h:vAu a=0):z0y Tryz.prog 66 [.d (auD a)] (.d (ints (zj8 a))):=by
 have hW:=z6a h
 have hn:=(z8q h).few
 have hlen:=hW.len
 have hdst:=z9k hW
 have hbig:=z9d hW
 refine z1p fun H=>?_
 generalize zj8 a=D at *
 obtain⟨F,A⟩:=a
 simp only at hn hlen hbig
 refine z0k Tryz.func66 (by kernel_rfl) rfl (by simp) ?_
 dsimp only[Tryz.f66]
 repeat' (first|(apply z08;(first|refine z0o ?_| (apply z0a;(refine z02 z1k rfl rfl ?_))|(apply z0e;(refine z02 z0t rfl rfl ?_))|(apply z13;(refine z02 (z1o rfl) rfl rfl ?_))|(apply z1s;(refine z0b z3k ?_))|(apply zi8;(refine zi6 (xs:=(List.replicate F.length (0:Int)).map icc) rfl rfl (Int.natCast_nonneg _) (by show ((F.length:Nat):Int)≤_;omega) rfl rfl rfl (by decide) (by simp) ?_))))|(apply z07;(first|refine z0m ?_|apply z09))|(apply z05;(first|apply z06|apply z00|apply z01)))
 all_goals try (exfalso;omega)
 refine z2o 15 1000 ?_
 refine z19 ?_
 refine z0c (z1v (fun q:Nat=>⟨76,[(1,.ptr (0,1) 0),(3,.ref (0,1000)),(17,.d (zea F)),(18,I .i64 F.length),(19,I .i64 (q:Nat))],[(1000,.row 3 1 (((zj7 F).take q++List.replicate (F.length-q) 0).map icc)),(1,BX F A)],H⟩) (fun q=>q≤F.length) (fun q=>F.length-q) ?_ 0 (zAf _)) rfl rfl
 have hd0:(zj7 F).length=F.length:=by simp[zj7]
 intro q hq ih
 by_cases hlt:q<F.length
 · obtain⟨b,hb⟩:∃ b,F[q]? =some b:=⟨_,zA0 hlt⟩
   have hcq:=zpm hb
   have ih':=ih (q+1) (by omega) (by omega)
   rw[hcq] at ih'
   have hrs:=ze1 hlt
   have htl:((zj7 F).take q).length=q:=by rw[zAm];omega
   generalize (zj7 F).take q=T at *
   have hget:(T++List.replicate (F.length-q) 0)[((q:Nat):Int).toNat]? =some 0:=by
    rw[hrs,zA9,zAg (by omega),htl,Nat.sub_self];rfl
   have hset:(T++List.replicate (F.length-q) 0).set ((q:Nat):Int).toNat (-1)=T++[-1]++List.replicate (F.length-(q+1)) 0:=by
    rw[hrs,zA9,za2 htl hlt,show F.length-(q+1)=F.length-q-1 by omega];simp
   have hget2:(T++[-1]++List.replicate (F.length-(q+1)) 0)[((q:Nat):Int).toNat]? =some (-1):=by
    rw[zA9,zAl,zAg (by omega),htl,Nat.sub_self];rfl
   have hset2:(T++[-1]++List.replicate (F.length-(q+1)) 0).set ((q:Nat):Int).toNat 0=T++[0]++List.replicate (F.length-(q+1)) 0:=by
    rw[zA9]
    have:=za2 htl hlt (-1) 0
    rw[show F.length-(q+1)=F.length-q-1 by omega]
    simpa using this
   cases b with
   | false =>
    rw[zAy (by decide)] at ih'
    repeat' (first|(apply z08;(first|refine z0o ?_| (apply z0a;(refine z02 z2l rfl rfl ?_))|(apply z0i;(first|refine z02 (z23 (ys:=F.map boc) rfl (idx (g:=boc) hb)) rfl rfl ?_| refine z02 (z2h rfl (by simp only[zA4,zAa,zAr,htl];omega)) rfl rfl ?_))|(apply z0r;(refine z02 (z0s z0w) rfl rfl ?_))|(apply z0d;(refine z3z (-1:Int) hget hset ?_))))|(apply z07;(first|refine z0m ?_|apply z09))|(apply z05;(first|apply z06|apply z00|refine z0v ?_| apply z04|apply z01|apply z03|refine z0f (fun _=>?_) (fun _=>?_)| refine z0j ?_)))
    all_goals exact zD27
   | true =>
    rw[zAz rfl] at ih'
    repeat' (first|(apply z08;(first|refine z0o ?_| (apply z0a;(refine z02 z2l rfl rfl ?_))|(apply z0i;(first|refine z02 (z23 (ys:=F.map boc) rfl (idx (g:=boc) hb)) rfl rfl ?_| refine z02 (z2h rfl (by simp only[zA4,zAa,zAr,zAk,List.length_nil,htl];omega)) rfl rfl ?_))|(apply z0r;(refine z02 (z0s z0w) rfl rfl ?_))|(apply z0d;(first|refine z3z (0:Int) hget2 hset2 ?_| refine z3z (-1:Int) hget hset ?_))))|(apply z07;(first|refine z0m ?_|apply z09))|(apply z05;(first|apply z06|apply z00|refine z1a ?_| apply z04|apply z01|apply z03|refine z0f (fun _=>?_) (fun _=>?_)| refine z0j ?_)))
    all_goals exact zD27
 obtain rfl:q=F.length:=by omega
 clear ih hq hlt
 rw[Nat.sub_self,List.replicate_zero,List.append_nil,show (zj7 F).take F.length=zj7 F by rw[← hd0,List.take_length]]
 repeat' (first|(apply z08;(refine z0o ?_))|(apply z07;(first|refine z0m ?_|apply z09))|(apply z05;(first|apply z06|apply z00|apply z04|apply z01|refine z0f (fun _=>?_) (fun _=>?_)| refine z0j ?_)))
 all_goals try (exfalso;omega)
 refine z19 ?_
 refine z0c (z1v (fun q:Nat × List Int × Bool=>⟨76,[(1,.ptr (0,1) 0),(3,.ref (0,1000)),(6,I .i64 (q.1:Nat)),(7,B q.2.2)],[(1000,.row 3 1 (q.2.1.map icc)),(1,BX F A)],H⟩) (fun q=>1≤q.1∧q.1≤F.length+1∧q.2.1.length=F.length∧(q.2.2=true→q.1≤F.length∧zr7 ⟨F,A⟩ ((q.1:Int)-1) q.2.1)∧(q.2.2=false→zmg ⟨F,A⟩ q.2.1)) (fun q=>F.length+1-q.1) ?_ (1,zj7 F,true) ⟨zAj _,by simp only;omega,hd0,fun _=>⟨hW.pos,zwr ⟨F,A⟩⟩,fun h=>by cases h⟩) rfl rfl
 rintro⟨d,L,more⟩ ⟨d1,d2,d3,d4,d5⟩ ih
 simp only at d1 d2 d3 d4 d5 ih ⊢
 cases more with
 | false =>
  obtain rfl:L=D:=y3z hW (d5 rfl) hdst
  refine z1y 1000 rfl ?_
  repeat' (first|(apply z08;(refine z0o ?_))|(apply z07;(first|refine z0m ?_|apply z09))|(apply z05;(first|apply z06|apply z00|refine z0v ?_| refine z0j ?_)))
  all_goals try (exfalso;first|omega|(simp at *;done))
  all_goals exact z0p Tryz.func66 _ z1c ⟨rfl,rfl⟩
 | true =>
  obtain⟨e1,e2⟩:=d4 rfl
  have hps:=zcg (L:=L) (d:=(d:Int)) (by omega) (A:=A) (by omega) false
  have hst:=z9u (a:=⟨F,A⟩) (k:=(d:Int)-1) hlen (by omega) e2 false
  have hmo:=fun g=>zvm (a:=⟨F,A⟩) (k:=(d:Int)-1) hW (by omega) e2 g
  have hen:=fun g=>y0i (a:=⟨F,A⟩) (k:=(d:Int)-1) hW (by omega) e2 g
  rw[show (d:Int)-1+1=d by omega] at hst hmo hen
  simp only at hst hmo hen
  generalize hP:zha (d:Int) 0 A (L,false)=P at *
  have ihF:=ih (d+1,P) ⟨by simp only;omega,by simp only;omega,by rw[hps.1,d3],fun g=>⟨by have:=hmo g;simp only;omega,by rw[show (((d+1,P).1:Nat):Int)-1=d by simp only;omega];exact hst⟩,hen⟩ (by simp only;omega)
  clear ih hmo hen hst hps d4 d5 e2
  obtain⟨P1,P2⟩:=P
  simp only at ihF
  repeat' (first|(apply z08;(first|refine z0o ?_| (apply z0a;(refine z02 z1k rfl rfl ?_))|(apply z0e;(refine z02 z0t rfl rfl ?_))|(apply z13;(refine z02 (z1o rfl) rfl rfl ?_))))|(apply z07;(first|refine z0m ?_|apply z09))|(apply z05;(first|apply z06|apply z00|refine z1a ?_| apply z04|apply z01)))
  all_goals try (exfalso;first|omega|(simp at *;done))
  refine z19 ?_
  refine z0c (z1v (fun q:Nat × List Int × Bool=>⟨76,[(1,.ptr (0,1) 0),(3,.ref (0,1000)),(6,I .i64 (d:Nat)),(7,B q.2.2),(36,.d (.slice (A.map z4u))),(37,I .i64 A.length),(38,I .i64 (q.1:Nat))],[(1000,.row 3 1 (q.2.1.map icc)),(1,BX F A)],H⟩) (fun q=>q.1≤A.length∧q.2.1.length=F.length∧zha (d:Int) q.1 (A.drop q.1) q.2=(P1,P2)) (fun q=>A.length-q.1) ?_ (0,L,false) ⟨zAf _,d3,hP⟩) rfl rfl
  clear hP d3
  rintro⟨q,M,b⟩ ⟨q1,q2,q3⟩ ihq
  simp only at q1 q2 q3 ihq ⊢
  by_cases hq:q<A.length
  · obtain⟨l,hl⟩:∃ l,A[q]? =some l:=⟨_,zA0 hq⟩
    have hll:=hbig l (zA2 hl)
    rw[drop_cons hl,zha] at q3
    have hla:=(hW.arc l (zA2 hl)).2
    simp only at hla
    generalize hRo:zka q (d:Int) l (M,b)=Ro at *
    have ihq':=ihq (q+1,Ro) ⟨by simp only;omega,by rw[← hRo,zd9];exact q2,q3⟩ (by simp only;omega)
    clear ihq q3
    obtain⟨R1,R2⟩:=Ro
    simp only at ihq'
    repeat' (first|(apply z08;(first|refine z0o ?_| (apply z0a;(refine z02 z2l rfl rfl ?_))|(apply z0i;(refine z02 (z23 (ys:=A.map z4u) rfl (idx hl)) rfl rfl ?_))|(apply z0r;(refine z02 (z0s z0w) rfl rfl ?_))|(apply z13;(refine z02 (z1o rfl) rfl rfl ?_))))|(apply z07;(first|refine z0m ?_|apply z09))|(apply z05;(first|apply z06|apply z00|apply z04|apply z01|apply z03|refine z0f (fun _=>?_) (fun _=>?_)| refine z0j ?_)))
    all_goals try (exfalso;first|omega|(simp at *;done))
    refine z19 ?_
    refine z0c (z1v (fun z:Nat × List Int × Bool=>⟨76,[(1,.ptr (0,1) 0),(3,.ref (0,1000)),(6,I .i64 (d:Nat)),(7,B z.2.2),(8,I .i64 (q:Nat)),(36,.d (.slice (A.map z4u))),(37,I .i64 A.length),(38,I .i64 (q:Nat)),(43,.d (z9j l)),(44,I .i64 l.length),(45,I .i64 (z.1:Nat))],[(1000,.row 3 1 (z.2.1.map icc)),(1,BX F A)],H⟩) (fun z=>z.1≤l.length∧z.2.1.length=F.length∧zka q (d:Int) (l.drop z.1) z.2=(R1,R2)) (fun z=>l.length-z.1) ?_ (0,M,b) ⟨zAf _,q2,hRo⟩) rfl rfl
    clear hRo q2
    rintro⟨j,N,c⟩ ⟨j1,j2,j3⟩ ihj
    simp only at j1 j2 j3 ihj ⊢
    by_cases hj:j<l.length
    · obtain⟨x,hx⟩:∃ x,l[j]? =some x:=⟨_,zA0 hj⟩
      have hx2:=hla x (zA2 hx)
      obtain⟨v,hv⟩:∃ v,N[q]? =some v:=⟨_,zA0 (by omega)⟩
      obtain⟨w,hw⟩:∃ w,N[x.2.2.toNat]? =some w:=⟨_,zA0 (by omega)⟩
      have hv2:N[((q:Nat):Int).toNat]? =some v:=by rw[zA9];exact hv
      have hw2:=hw
      have hls:=zpy x
      rw[zi7] at hls
      rw[drop_cons hx] at j3
      have hset:N.set ((q:Nat):Int).toNat d=N.set q d:=by rw[zA9]
      by_cases h1:v<0
      · by_cases h2:w=(d:Int)-1
        · by_cases h3:0≤z8u x
          · rw[zys hv hw h1 h2 h3] at j3
            have ihj':=ihj (j+1,N.set q d,true) ⟨by simp only;omega,by rw[List.length_set];exact j2,j3⟩ (by simp only;omega)
            all_goals exact zD7
          · rw[zq7 hv hw (fun g=>h3 g.2.2)] at j3
            exact zD88
        · rw[zq7 hv hw (fun g=>h2 g.2.1)] at j3
          exact zD88
      · rw[zq7 hv hw (fun g=>h1 g.1)] at j3
        exact zD88
    · obtain rfl:j=l.length:=by omega
      rw[zAs] at j3
      cases j3
      clear ihj
      repeat' (first|(apply z08;(first|refine z0o ?_| (apply z0r;(refine z02 (z0s z0w) rfl rfl ?_))))|(apply z07;(first|refine z0m ?_|apply z09))|(apply z05;(first|apply z06|apply z00|apply z04|apply z01|apply z03|refine z0f (fun _=>?_) (fun _=>?_)| refine z0j ?_)))
      all_goals try (exfalso;first|omega|(simp at *;done))
      all_goals exact z0c ihq' rfl rfl
  · obtain rfl:q=A.length:=by omega
    rw[zAs,zha] at q3
    cases q3
    clear ihq
    repeat' (first|(apply z08;(first|refine z0o ?_| (apply z0r;(refine z02 (z0s z0w) rfl rfl ?_))))|(apply z07;(first|refine z0m ?_|apply z09))|(apply z05;(first|apply z06|apply z00|apply z04|apply z01|apply z03|refine z0f (fun _=>?_) (fun _=>?_)| refine z0j ?_)))
    all_goals try (exfalso;first|omega|(simp at *;done))
    all_goals exact z0c ihF rfl rfl
def shB (a:Au):Bool:=decide (0≤(zj8 a).getD 0 0)
def shW (a:Au):List Int:=zeq a.A (zj8 a) ((zj8 a).getD 0 0).toNat 0
def shS (a:Au):ByteArray:=if 0≤(zj8 a).getD 0 0 then txE (shW a) else ByteArray.empty
theorem zhv (a:Au) (hf:zam a) (h:vAu a≠0):z0y Tryz.prog 35 [.d (auD a)] (.tup [S ByteArray.empty,B false]):=by
 refine z1p fun H=>?_
 have hv:=z5b a hf
 generalize vAu a=v at *
 obtain⟨F,A⟩:=a
 refine z0k Tryz.func35 (by kernel_rfl) rfl (by simp) ?_
 dsimp only[Tryz.f35]
 repeat' (first|(apply z08;(first|refine z0o ?_| (apply z0a;(refine z02 z2q rfl rfl ?_))|(apply z0q;(refine z0z hv ?_))|(apply z1s;(refine z0b z3k ?_))))|(apply z07;(first|refine z0m ?_|apply z09))|(apply z05;(first|apply z06|apply z00|apply z04|refine z5c rfl (fun _=>?_) (fun _=>?_))))
 all_goals exact zD93
theorem zrt {l:List Arc} {i:Nat} {x y:Arc} {f:Arc→Bool} (hx:l[i]? =some x) (h:(l.drop i).find? f=some y):(f x=true∧x=y)∨(f x=false∧(l.drop (i+1)).find? f=some y):=by
 rw[drop_cons hx,List.find?_cons] at h
 cases e:f x with
 | true=>rw[e] at h;exact .inl ⟨rfl,by injection h⟩
 | false=>rw[e] at h;exact .inr ⟨rfl,h⟩
theorem enc_size (c:Int):(Utf8.encode c).size≤4:=by
 have:=(zw2 [c]).2
 rw[y0r] at this
 simpa using this
theorem y4z (o:ByteArray) (c:Int) (l:List Int):o++txE (c::l)=o++Utf8.encode c++txE l:=by
 rw[show c::l=[c]++l from rfl,zzt,y0r,ByteArray.append_assoc]
theorem y2u {a:Au} (hW:AuW a) {D:List Int} (hdst:zmg a D) (k q:Nat) (hq:D[q]? =some ((k:Int)+1)):∃ x,(a.A.getD q []).find? (zq2 D k)=some x∧0≤z8u x∧D[x.2.2.toNat]? =some (k:Int)∧0≤x.2.2∧x.2.2<a.F.length∧zeq a.A D (k+1) q=z8u x::zeq a.A D k x.2.2.toNat:=by
 have hql:=(zA1.1 hq).1
 obtain⟨x,x1,x2,x3,x4⟩:=zku hdst (k:=k) hql (getD_some hq)
 have hx:=zc2 hW x2
 have hl:x.2.2.toNat<D.length:=by rw[hdst.len];omega
 have e:D.getD x.2.2.toNat 0=D[x.2.2.toNat]:=by simp[List.getD,hl]
 refine⟨x,x1,x3,?_,hx.2.2.2.1,hx.2.2.2.2,by rw[zeq,x1]⟩
 rw[zA0 hl,← e,x4]
theorem zo0 {a:Au} (hf:zam a) (h:vAu a=0):z0y Tryz.prog 35 [.d (auD a)] (.tup [S (shS a),B (shB a)]):=by
 have hW:=z6a h
 have hn:=(z8q h).few
 have hlen:=hW.len
 have hdst:=z9k hW
 have hbig:=z9d hW
 have hds:=zkm h
 refine z1p fun H=>?_
 have hv:=z5b a hf
 rw[h] at hv
 have hp:=hW.pos
 rw[shB,shS,shW]
 generalize zj8 a=D at *
 have hDl:=hdst.len
 obtain⟨v0,hv0⟩:∃ v,D[0]? =some v:=⟨_,zA0 (by omega)⟩
 have hv00:D[(0:Int).toNat]? =some v0:=hv0
 rw[getD_some hv0]
 have hr0:=hdst.rng 0 (by omega)
 rw[getD_some hv0] at hr0
 obtain⟨F,A⟩:=a
 simp only at hn hlen hbig hp hDl hr0 ⊢
 by_cases h0:0≤v0
 case neg =>
  rw[zAy h0,zAo h0]
  refine z0k Tryz.func35 (by kernel_rfl) rfl (by simp) ?_
  dsimp only[Tryz.f35]
  repeat' (first|(apply z08;(first|refine z0o ?_| (apply z0a;(first|refine z02 z2q rfl rfl ?_| refine z02 z2l rfl rfl ?_))|(apply z0i;(refine z02 (z23 (ys:=D.map icc) rfl (y56 (g:=icc) hv00)) rfl rfl ?_))|(apply z0q;(first|refine z0z hv ?_| refine z0z hds ?_))|(apply z1s;(refine z0b z3k ?_))))|(apply z07;(first|refine z0m ?_|apply z09))|(apply z05;(first|apply z06|apply z00|refine z0v ?_| apply z04|apply z01|refine z0f (fun _=>?_) (fun _=>?_))))
  all_goals exact zD93
 rw[zAz h0,zAi h0]
 obtain⟨k0,rfl⟩:∃ k:Nat,v0=k:=⟨v0.toNat,by omega⟩
 rw[zA9]
 have hpath:=y2u (a:=⟨F,A⟩) hW hdst
 refine z0k Tryz.func35 (by kernel_rfl) rfl (by simp) ?_
 dsimp only[Tryz.f35]
 repeat' (first|(apply z08;(first|refine z0o ?_| (apply z0a;(first|refine z02 z2q rfl rfl ?_| refine z02 z2l rfl rfl ?_))|(apply z0i;(refine z02 (z23 (ys:=D.map icc) rfl (y56 (g:=icc) hv00)) rfl rfl ?_))|(apply z0q;(first|refine z0z hv ?_| refine z0z hds ?_))|(apply z1s;(refine z0b z3k ?_))))|(apply z07;(first|refine z0m ?_|apply z09))|(apply z05;(first|apply z06|apply z00|refine z0v ?_| apply z04|apply z01)))
 all_goals try (exfalso;first|omega|(simp at *;done))
 refine z19 ?_
 refine z0c (z1v (fun z:Nat × Nat × ByteArray=>⟨59,[(1,.ptr (0,1) 0),(4,.d (ints D)),(5,S z.2.2),(6,I .i64 (z.2.1:Nat))],[(1,BX F A)],H⟩) (fun z=>D[z.2.1]? =some (z.1:Int)∧z.2.2++txE (zeq A D z.1 z.2.1)=txE (zeq A D k0 0)∧z.2.2.size+4*z.1≤4*k0) (fun z=>z.1) ?_ (k0,0,ByteArray.empty) ⟨hv0,ByteArray.empty_append,by simp⟩) rfl rfl
 rintro⟨k,q,o⟩ ⟨i1,i2,i3⟩ ih
 simp only at i1 i2 i3 ih ⊢
 have hDq:D[((q:Nat):Int).toNat]? =some (k:Int):=by rw[zA9];exact i1
 have hql:=(zA1.1 i1).1
 cases k with
 | zero =>
  rw[zeq,y0t,ByteArray.append_empty] at i2
  subst i2
  clear ih
  repeat' (first|(apply z08;(first|refine z0o ?_| (apply z0a;(refine z02 z2l rfl rfl ?_))|(apply z0i;(refine z02 (z23 (ys:=D.map icc) rfl (idx (g:=icc) i1)) rfl rfl ?_))))|(apply z07;(first|refine z0m ?_|apply z09))|(apply z05;(first|apply z06|apply z00|refine z0v ?_| refine z0j ?_)))
  all_goals exact zD93
 | succ k =>
  obtain⟨y,y1,y2,y3,y4,y5,y6⟩:=hpath k q (by rw[i1];rfl)
  simp only at y1 y5 y6
  rw[y6,y4z] at i2
  have ih':=ih (k,y.2.2.toNat,o++Utf8.encode (z8u y)) ⟨y3,i2,by have:=enc_size (z8u y);simp only[ByteArray.size_append];omega⟩ (by simp only;omega)
  simp only at ih'
  rw[Int.toNat_of_nonneg y4] at ih'
  clear ih i2
  obtain⟨l,hl⟩:∃ l,A[q]? =some l:=⟨_,zA0 (by omega)⟩
  have hll:=hbig l (zA2 hl)
  have hla:=(hW.arc l (zA2 hl)).2
  simp only at hla
  rw[List.getD,hl,Option.getD_some] at y1
  have hk0:k0≤256:=by omega
  repeat' (first|(apply z08;(first|refine z0o ?_| (apply z0a;(first|refine z02 z1k rfl rfl ?_| refine z02 z2l rfl rfl ?_))|(apply z0e;(refine z02 z0t rfl rfl ?_))|(apply z0i;(first|refine z02 (z23 (ys:=D.map icc) rfl (idx (g:=icc) i1)) rfl rfl ?_| refine z02 (z23 (ys:=A.map z4u) rfl (idx hl)) rfl rfl ?_))|(apply z13;(refine z02 (z1o rfl) rfl rfl ?_))))|(apply z07;(first|refine z0m ?_|apply z09))|(apply z05;(first|apply z06|apply z00|apply z04|apply z01|refine z0f (fun _=>?_) (fun _=>?_)| refine z0j ?_)))
  all_goals try (exfalso;first|omega|(simp at *;done))
  refine z19 ?_
  refine z0c (z1v (fun z:Nat=>⟨59,[(1,.ptr (0,1) 0),(4,.d (ints D)),(5,S o),(6,I .i64 (q:Nat)),(28,.d (z9j l)),(29,I .i64 l.length),(30,I .i64 (z:Nat))],[(1,BX F A)],H⟩) (fun z=>z≤l.length∧(l.drop z).find? (zq2 D k)=some y) (fun z=>l.length-z) ?_ 0 ⟨zAf _,y1⟩) rfl rfl
  rintro j ⟨j1,j2⟩ ihj
  by_cases hj:j<l.length
  · obtain⟨x,hx⟩:∃ x,l[j]? =some x:=⟨_,zA0 hj⟩
    have hx2:=hla x (zA2 hx)
    have hls:=zpy x
    rw[zi7] at hls
    obtain⟨w,hw⟩:∃ w,D[x.2.2.toNat]? =some w:=⟨_,zA0 (by omega)⟩
    rcases zrt hx j2 with ⟨e,rfl⟩|⟨e,j3⟩
    · rw[zq2,getD_some hw,zA7,zA3,zA3] at e
      obtain⟨e1,e2⟩:=e
      repeat' (first|(apply z08;(first|refine z0o ?_| (apply z0a;(first|refine z02 z1k rfl rfl ?_| refine z02 z2a rfl rfl ?_| refine z02 z2m rfl rfl ?_))|(apply z0e;(refine z02 z0t rfl rfl ?_))|(apply z0i;(refine z02 (z23 (ys:=l.map z2x) rfl (idx hx)) rfl rfl ?_))|(apply z0r;(refine z02 (z0s z0w) rfl rfl ?_))|(apply z0q;(refine z0z hls ?_))|(apply z0d;(refine z29 ?_))|(apply z0g;(refine z0b z1f ?_))|(apply z5h;(refine z02 (zch rfl rfl) rfl rfl ?_))|refine z02 (zqe (by have:=enc_size (z8u x);omega)) rfl rfl ?_))|(apply z07;(first|refine z0m ?_|apply z09))|(apply z05;(first|apply z06|apply z00|refine z0v ?_| apply z04|apply z01|apply z2c|apply z03|refine z0f (fun _=>?_) (fun _=>?_)| refine z0j ?_))|(apply z2d;(first|(apply z0u;refine z1h mix ?_)|refine z1w ?_| refine z2e ?_| (apply z0l;(first|refine z0h z1k rfl rfl ?_| refine z0h z2l rfl rfl ?_))|(apply z11;(refine z0h z0t rfl rfl ?_))|(apply z0n;(first|refine z0h (z23 (ys:=D.map icc) rfl (y56 (g:=icc) hw)) rfl rfl ?_| refine z0h (z23 (ys:=D.map icc) rfl (idx (g:=icc) i1)) rfl rfl ?_))|(apply z1m;(refine z0h (z1g z0w) rfl rfl ?_))|(refine z2f (fun hg=>?_) (fun hg=>?_)<;> simp only[hg] <;> (try simp only[zA3,zA5,zA6,zA8] at hg)))))
      all_goals exact zD27
    · rw[zq2,getD_some hw] at e
      have ihj':=ihj (j+1) ⟨by omega,j3⟩ (by omega)
      by_cases e1:0≤z8u x
      · rw[zAi e1,Bool.true_and,zA5] at e
        all_goals exact zD15
      · skip
        all_goals exact zD15
  · rw[List.drop_eq_nil_of_le (by omega)] at j2
    cases j2
attribute [local irreducible] zca
theorem y23 (s:ByteArray):∀ f i,rnL s f i=(uB s f i).map (·.r)
 | 0,i=>rfl
 | f+1,i=>by
  rw[rnL,uB]
  split
  · rw[List.map_cons,y23 s f]
  · rfl
theorem zrr (s:ByteArray):rnL s s.size 0=Go.Rx.z83 s:=by
 rw[Go.Rx.z83,rst,Nat.sub_zero];exact y23 s _ _
theorem zz1 {a:Au} (h:vAu a=0) (h0:¬ 0≤(zj8 a).getD 0 0) (t:ByteArray):zh7 a t=false:=by
 have hW:=z6a h
 have hd:=z9k hW
 rw[z8a h]
 cases e:(zc5 t&&a.acc 0 (cps t 0)) with
 | false=>rfl
 | true =>
  rw[zA7] at e
  have:=zgu hW hd (cps t 0) 0 z8x (by rw[hd.len];exact hW.pos) e.2
  exact absurd this.1 h0
theorem zss {a:Au} (h:vAu a=0) (h0:0≤(zj8 a).getD 0 0):shS a=txE (shW a)∧(∀ c∈shW a,zfv c)∧(shW a).length=((zj8 a).getD 0 0).toNat∧a.acc 0 (shW a)=true:=by
 have hW:=z6a h
 have hd:=z9k hW
 obtain⟨p1,p2,p3⟩:=zxa hW hd ((zj8 a).getD 0 0).toNat 0 (by rw[hd.len];exact hW.pos) (by omega)
 exact⟨by rw[shS,zAz h0],p2,p1,p3⟩
theorem y40 {a:Au} (h:vAu a=0) (h0:0≤(zj8 a).getD 0 0):zh7 a (shS a)=true∧Go.Rx.z83 (shS a)=shW a∧(shS a).size≤1024∧zh3 a=false:=by
 obtain⟨s1,s2,s3,s4⟩:=zss h h0
 obtain⟨r1,r2⟩:=zwj s2
 have hW:=z6a h
 have hr:=(z9k hW).rng 0 (by rw[(z9k hW).len];exact hW.pos)
 have hn:=(z8q h).few
 have hz:=(zw2 (shW a)).2
 refine⟨?_,by rw[s1,r1],by rw[s1];omega,?_⟩
 · rw[z8a h,s1,r2,show cps (txE (shW a)) 0=shW a from r1,s4];rfl
 · cases e:zh3 a with
   | false=>rfl
   | true =>
    have:=(zg4 hW).1 e (shW a)
    rw[s4] at this;cases this
theorem zvq {a:Au} (h:vAu a=0) (h0:0≤(zj8 a).getD 0 0) {t:ByteArray} (hr:zh7 a t=true):(shW a).length<(Go.Rx.z83 t).length∨(shW a).length=(Go.Rx.z83 t).length∧(Op.bytesLess (shS a).toList t.toList||decide (shS a=t))=true:=by
 obtain⟨s1,s2,s3,s4⟩:=zss h h0
 have hW:=z6a h
 have hd:=z9k hW
 rw[z8a h,zA7] at hr
 have hq:0<(zj8 a).length:=by rw[hd.len];exact hW.pos
 have hlo:=zgu hW hd (Go.Rx.z83 t) 0 z8x hq hr.2
 by_cases hlt:(shW a).length<(Go.Rx.z83 t).length
 · exact .inl hlt
 · have he:(shW a).length=(Go.Rx.z83 t).length:=by omega
   refine .inr ⟨he,?_⟩
   have hlx:=zrj hW hd (Go.Rx.z83 t) 0 ((zj8 a).getD 0 0).toNat z8x hq (by omega) (by omega) hr.2
   exact zzq s1 (zv5 hr.1) hlx s2 z8x he
theorem y10 {P:Program} {ty tx ty':TypeId} {x y:Operand} {a b:ByteArray} {r:Bool} (h:(Op.bytesLess a.toList b.toList||decide (a=b))=r):Val P (.binOp .leq tx x y ty') ty [(x,S a),(y,S b)] [] (B r):=by
 rw[← h];exact zxf
theorem z96 {P:Program} {ty:TypeId} {x:Operand} {src dst e:TypeId} {ts td te:TI} {s:ByteArray} {l:List Int} [hs:z1i P src ts] [hd':z1i P dst td] [he:z1i P e te] (hl:Go.Rx.z83 s=l) (hks:ts.kind=.str) (hkd:td.kind=.slice e) (hke:te.kind=.int .i32) (hsz:s.size≤1000000) :
 Val P (.convert src dst x) ty [(x,S s)] [] (.d (.slice (l.map fun n=>[z2b n]))):=by
 have:=zqv (P:=P) (ty:=ty) (x:=x) (src:=src) (dst:=dst) (e:=e) (s:=s) hks hkd hke (by omega)
 rw[zrr,hl] at this
 exact this
theorem zoc (τ:Tab) (a:Au) (hfa:zam a) (t:ByteArray) (ht:t.size≤maxLen):z1x Tryz.prog 13 [.d (auD a),S t] (zeo τ 0) [] (B true):=by
 refine z22 fun H hH=>?_
 have hX0:=hH ((0,700),.glob 0 τ.o0) (by simp)
 have hX1:=hH ((0,701),.glob 1 τ.o1) (by simp)
 have haw:=zkz τ
 have hlg:=zkn 12 (by omega) [a] (by simp) (by simpa using hfa)
 have hany:[a].any (lgA 12)=lgA 12 a:=by simp
 rw[hany] at hlg
 have hmax:maxLen≤9223372036854775807:=by simp[maxLen]
 by_cases hb:lgA 12 a=true
 · rw[hb] at hlg
   obtain⟨F,A⟩:=a
   refine z0k Tryz.func13 (by kernel_rfl) rfl (by simp) ?_
   dsimp only[Tryz.f13]
   refine z3x 700 0 700 hX0 ?_
   refine z3x 701 0 701 (z10 hX1 (by simp)) ?_
   repeat' (first|(apply z08;(first|refine z0o ?_| (apply z0a;(refine z02 z2q rfl rfl ?_))|(apply z0q;(refine z0z hlg ?_))|(apply z1s;(refine z0b z3k ?_))|(apply z2i;(refine z2n rfl ?_))))|(apply z07;(first|refine z0m ?_|apply z09|refine z1u ?_))|(apply z05;(first|apply z06|apply z00|refine z1a ?_)))
   all_goals exact zD9
 have hsm:=zj0 hb hfa
 rw[Bool.not_eq_true] at hb
 rw[hb] at hlg
 by_cases h30:30<t.size
 · obtain⟨F,A⟩:=a
   refine z0k Tryz.func13 (by kernel_rfl) rfl (by simp) ?_
   dsimp only[Tryz.f13]
   refine z3x 700 0 700 hX0 ?_
   refine z3x 701 0 701 (z10 hX1 (by simp)) ?_
   repeat' (first|(apply z08;(first|refine z0o ?_| (apply z0a;(refine z02 z2q rfl rfl ?_))|(apply z13;(refine z02 (z56 rfl) rfl rfl ?_))|(apply z0q;(refine z0z hlg ?_))|(apply z1s;(refine z0b z3k ?_))|(apply z2i;(refine z2n rfl ?_))))|(apply z07;(first|refine z0m ?_|apply z09))|(apply z05;(first|apply z06|apply z00|apply z04|refine z0f (fun _=>?_) (fun _=>?_))))
   all_goals exact zD9
 have hmx:t.size≤1000000:=by omega
 have hrt:=zap a hfa (fun l hl=>by have:=hsm l hl;omega) t hmx
 by_cases h:vAu a=0
 case neg =>
  have hsh:=zhv a hfa h
  have e:zh7 a t=false:=by rw[zh7,zAy (fun g=>h g.1)]
  rw[e] at hrt
  exact zD32
 have hsh:=zo0 hfa h
 by_cases h0:0≤(zj8 a).getD 0 0
 case neg =>
  rw[zz1 h h0] at hrt
  rw[shB,shS,zAy h0,zAo h0] at hsh
  exact zD32
 obtain⟨k1,k2,k3,k4⟩:=y40 h h0
 have hrs:=zap a hfa (fun l hl=>by have:=hsm l hl;omega) (shS a) (by omega)
 rw[k1] at hrs
 have hem:=zph a hfa h (by have:=(z8q h).few;omega)
 rw[k4] at hem
 rw[shB,zAi h0] at hsh
 by_cases hr:zh7 a t=true
 case neg =>
  rw[Bool.not_eq_true] at hr
  rw[hr] at hrt
  generalize shS a=s at *
  obtain⟨F,A⟩:=a
  refine z0k Tryz.func13 (by kernel_rfl) rfl (by simp) ?_
  dsimp only[Tryz.f13]
  refine z3x 700 0 700 hX0 ?_
  refine z3x 701 0 701 (z10 hX1 (by simp)) ?_
  repeat' (first|(apply z08;(first|refine z0o ?_| (apply z0a;(refine z02 z2q rfl rfl ?_))|(apply z13;(refine z02 (z56 rfl) rfl rfl ?_))|(apply z0q;(first|refine z39 haw rfl rfl (by decide) ?_|refine z0z hlg ?_| refine z0z hsh ?_| refine z0z hrt ?_| refine z0z hrs ?_| refine z0z hem ?_))|(apply z1s;(refine z0b z3k ?_))|(apply z2i;(refine z2n rfl ?_))))|(apply z07;(first|refine z0m ?_|apply z09))|(apply z05;(first|apply z06|apply z00|refine z0v ?_| apply z04|refine z0f (fun _=>?_) (fun _=>?_))))
  all_goals exact zD9
 have hle:=zvq h h0 hr
 rw[hr] at hrt
 clear hr k1 k4
 generalize hU:shW a=U at *
 generalize hV:Go.Rx.z83 t=V at *
 generalize shS a=s at *
 rcases hle with hle|⟨he,hle⟩
 · obtain⟨F,A⟩:=a
   refine z0k Tryz.func13 (by kernel_rfl) rfl (by simp) ?_
   dsimp only[Tryz.f13]
   refine z3x 700 0 700 hX0 ?_
   refine z3x 701 0 701 (z10 hX1 (by simp)) ?_
   repeat' (first|(apply z08;(first|refine z02 (z96 k2 rfl rfl rfl (by omega)) rfl rfl ?_| refine z02 (z96 hV rfl rfl rfl (by omega)) rfl rfl ?_| refine z0o ?_| (apply z0a;(refine z02 z2q rfl rfl ?_))|(apply z0r;(refine z02 zxf rfl rfl ?_))|(apply z13;(first|refine z02 (z1o rfl) rfl rfl ?_| refine z02 (z56 rfl) rfl rfl ?_))|(apply z0q;(first|refine z39 haw rfl rfl (by decide) ?_|refine z0z hlg ?_| refine z0z hsh ?_| refine z0z hrt ?_| refine z0z hrs ?_| refine z0z hem ?_))|(apply z1s;(refine z0b z3k ?_))|(apply z2i;(refine z2n rfl ?_))))|(apply z07;(first|refine z0m ?_|apply z09|refine z1u ?_| refine ziq rfl rfl (by decide) ?_|refine z2p (fun _=>?_) (fun _=>?_)| refine zp1 rfl rfl (fun _=>?_) (fun _=>?_)))|(apply z05;(first|apply z06|apply z00|refine z1a ?_| refine z0v ?_| apply z04|refine z0f (fun _=>?_) (fun _=>?_))))
   all_goals exact zD9
 · obtain⟨F,A⟩:=a
   refine z0k Tryz.func13 (by kernel_rfl) rfl (by simp) ?_
   dsimp only[Tryz.f13]
   refine z3x 700 0 700 hX0 ?_
   refine z3x 701 0 701 (z10 hX1 (by simp)) ?_
   repeat' (first|(apply z08;(first|refine z02 (z96 k2 rfl rfl rfl (by omega)) rfl rfl ?_| refine z02 (z96 hV rfl rfl rfl (by omega)) rfl rfl ?_| refine z02 (y10 hle) rfl rfl ?_| refine z0o ?_| (apply z0a;(refine z02 z2q rfl rfl ?_))|(apply z13;(first|refine z02 (z1o rfl) rfl rfl ?_| refine z02 (z56 rfl) rfl rfl ?_))|(apply z0q;(first|refine z39 haw rfl rfl (by decide) ?_|refine z0z hlg ?_| refine z0z hsh ?_| refine z0z hrt ?_| refine z0z hrs ?_| refine z0z hem ?_))|(apply z1s;(refine z0b z3k ?_))|(apply z2i;(refine z2n rfl ?_))))|(apply z07;(first|refine z0m ?_|apply z09|refine z1u ?_| refine ziq rfl rfl (by decide) ?_|refine z2p (fun _=>?_) (fun _=>?_)))|(apply z05;(first|apply z06|apply z00|refine z1a ?_| refine z0v ?_| apply z04|refine z0f (fun _=>?_) (fun _=>?_))))
   all_goals exact zD9
end Go.Proofs.YthdfkabdoidjfaaGreatDoor
