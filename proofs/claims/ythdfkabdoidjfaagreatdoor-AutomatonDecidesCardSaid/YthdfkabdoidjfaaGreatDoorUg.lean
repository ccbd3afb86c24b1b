/- A part of the proof: D1 to D2. -/
import Derived.Test.YthdfkabdoidjfaaGreatDoorUc
import Derived.Test.YthdfkabdoidjfaaGreatDoorU2
import Derived.Test.YthdfkabdoidjfaaGreatDoorUh
import Derived.Test.YthdfkabdoidjfaaGreatDoorUy
import Derived.Test.YthdfkabdoidjfaaGreatDoorUi
import Derived.Test.YthdfkabdoidjfaaGreatDoorUb
import Derived.Laws.IdiomStrings
set_option linter.all false
namespace Go.Proofs.YthdfkabdoidjfaaGreatDoor
open Go.Ab Go.Ax Go.Rx
set_option maxHeartbeats 20000000
set_option maxRecDepth 100000
attribute [local irreducible] Run Ops Op1 z1d Val Tr z08 z13 NF Rel z2h z2g
theorem zwq {α:Type} {g:α→List D} {q:List α} {a:Int} {x:α} (h:q[a.toNat]? =some x):(q.map g)[a.toNat]? =some (g x):=by
 rw[zAd,h];rfl
theorem zi3 (x:Arc):zsk x=z88 x:=rfl
theorem zqa {q:Nat} {d:Int} {N:List Int} {c:Bool} {x:Arc} {l:List Arc} {v w:Int} (hv:N[q]? =some v) (hw:N[x.2.2.toNat]? =some w) (h1:v<0) (h2:w=d-1) (h3:0≤z88 x):zg2 q d (x::l) (N,c)=zg2 q d l (N.set q d,true):=by
 rw[zg2,List.foldl_cons,y2h,zoi,getD_some hv,getD_some hw,zAz ⟨h1,by rw[zAi h2,zAi h3];rfl⟩];rfl
theorem zee {q:Nat} {d:Int} {N:List Int} {c:Bool} {x:Arc} {l:List Arc} {v w:Int} (hv:N[q]? =some v) (hw:N[x.2.2.toNat]? =some w) (h:¬ (v<0∧w=d-1∧0≤z88 x)):zg2 q d (x::l) (N,c)=zg2 q d l (N,c):=by
 rw[zg2,List.foldl_cons,y2h,zoi,getD_some hv,getD_some hw,zAy (fun g=>h ⟨g.1,by have:=g.2;rw[zA7,zA3,zA3] at this;exact this⟩)];rfl
theorem zhc {F:List Bool} {q:Nat} {b:Bool} (hb:F[q]? =some b):(zba F).take (q+1)=(zba F).take q++[if b=true then 0 else -1]:=by
 rw[List.take_add_one]
 congr 1
 simp[zba,hb]
theorem z3m (q:Nat) (d:Int):∀ (l:List Arc) (s:List Int × Bool),(zg2 q d l s).1.length=s.1.length
 | [],s=>rfl
 | x::l,s=>by
  show (zg2 q d l (y2h q d s x)).1.length=_
  rw[z3m q d l,y2h]
  split
  · exact List.length_set
  · rfl
theorem zja {a:Au} (h:vAu a=0):z08 Tryz.prog 66 [.d (auD a)] (.d (ints (zv9 a))):=by
 have hW:=z8c h
 have hn:=(z3r h).few
 have hlen:=hW.len
 have hdst:=zjt hW
 have hbig:=zcj hW
 refine z0g fun H=>?_
 generalize zv9 a=D at *
 obtain⟨F,A⟩:=a
 simp only at hn hlen hbig
 refine z03 Tryz.func66 (by kernel_rfl) rfl (by simp) ?_
 dsimp only[Tryz.f66]
 repeat' (first|(apply z0w;(refine z07 z2b ?_))|(apply zb6;(refine zaw (xs:=(List.replicate F.length (0:Int)).map icc) rfl rfl (Int.natCast_nonneg _) (by show ((F.length:Nat):Int)≤_;omega) rfl rfl rfl (by decide) (by simp) ?_))|refine stq ?_|fail)
 all_goals try (exfalso;omega)
 refine z18 15 1000 ?_
 refine z0a ?_
 refine z00 (z0p (fun q:Nat=>⟨76,[(1,.ptr (0,1) 0),(3,.ref (0,1000)),(17,.d (z56 F)),(18,I .i64 F.length),(19,I .i64 (q:Nat))],[(1000,.row 3 1 (((zba F).take q++List.replicate (F.length-q) 0).map icc)),(1,BX F A)],H⟩) (fun q=>q≤F.length) (fun q=>F.length-q) ?_ 0 (zAf _)) rfl rfl
 have hd0:(zba F).length=F.length:=by simp[zba]
 intro q hq ih
 by_cases hlt:q<F.length
 · exact zD7
 obtain rfl:q=F.length:=by omega
 clear ih hq hlt
 rw[Nat.sub_self,List.replicate_zero,List.append_nil,show (zba F).take F.length=zba F by rw[← hd0,List.take_length]]
 repeat' (first|refine stq ?_|refine fk (fun _=>?_) (fun _=>?_))
 all_goals try (exfalso;omega)
 refine z0a ?_
 refine z00 (z0p (fun q:Nat × List Int × Bool=>⟨76,[(1,.ptr (0,1) 0),(3,.ref (0,1000)),(6,I .i64 (q.1:Nat)),(7,B q.2.2)],[(1000,.row 3 1 (q.2.1.map icc)),(1,BX F A)],H⟩) (fun q=>1≤q.1∧q.1≤F.length+1∧q.2.1.length=F.length∧(q.2.2=true→q.1≤F.length∧znq ⟨F,A⟩ ((q.1:Int)-1) q.2.1)∧(q.2.2=false→zq7 ⟨F,A⟩ q.2.1)) (fun q=>F.length+1-q.1) ?_ (1,zba F,true) ⟨zAj _,by simp only;omega,hd0,fun _=>⟨hW.pos,zs7 ⟨F,A⟩⟩,fun h=>by cases h⟩) rfl rfl
 rintro⟨d,L,more⟩ ⟨d1,d2,d3,d4,d5⟩ ih
 simp only at d1 d2 d3 d4 d5 ih ⊢
 cases more with
 | false =>
  obtain rfl:L=D:=zyu hW (d5 rfl) hdst
  refine z0o 1000 rfl ?_
  repeat' (first|refine stq ?_|fail)
  all_goals try (exfalso;first|omega|(simp at *;done))
  all_goals exact z05 Tryz.func66 _ z0e ⟨rfl,rfl⟩
 | true =>
  obtain⟨e1,e2⟩:=d4 rfl
  have hps:=z9a (L:=L) (d:=(d:Int)) (by omega) (A:=A) (by omega) false
  have hst:=z6p (a:=⟨F,A⟩) (k:=(d:Int)-1) hlen (by omega) e2 false
  have hmo:=fun g=>zti (a:=⟨F,A⟩) (k:=(d:Int)-1) hW (by omega) e2 g
  have hen:=fun g=>y16 (a:=⟨F,A⟩) (k:=(d:Int)-1) hW (by omega) e2 g
  rw[show (d:Int)-1+1=d by omega] at hst hmo hen
  simp only at hst hmo hen
  generalize hP:zdg (d:Int) 0 A (L,false)=P at *
  have ihF:=ih (d+1,P) ⟨by simp only;omega,by simp only;omega,by rw[hps.1,d3],fun g=>⟨by have:=hmo g;simp only;omega,by rw[show (((d+1,P).1:Nat):Int)-1=d by simp only;omega];exact hst⟩,hen⟩ (by simp only;omega)
  clear ih hmo hen hst hps d4 d5 e2
  obtain⟨P1,P2⟩:=P
  simp only at ihF
  repeat' (first|refine stq ?_|fail)
  all_goals try (exfalso;first|omega|(simp at *;done))
  refine z0a ?_
  refine z00 (z0p (fun q:Nat × List Int × Bool=>⟨76,[(1,.ptr (0,1) 0),(3,.ref (0,1000)),(6,I .i64 (d:Nat)),(7,B q.2.2),(36,.d (.slice (A.map z25))),(37,I .i64 A.length),(38,I .i64 (q.1:Nat))],[(1000,.row 3 1 (q.2.1.map icc)),(1,BX F A)],H⟩) (fun q=>q.1≤A.length∧q.2.1.length=F.length∧zdg (d:Int) q.1 (A.drop q.1) q.2=(P1,P2)) (fun q=>A.length-q.1) ?_ (0,L,false) ⟨zAf _,d3,hP⟩) rfl rfl
  clear hP d3
  rintro⟨q,M,b⟩ ⟨q1,q2,q3⟩ ihq
  simp only at q1 q2 q3 ihq ⊢
  by_cases hq:q<A.length
  · obtain⟨l,hl⟩:∃ l,A[q]? =some l:=⟨_,zA0 hq⟩
    have hll:=hbig l (zA2 hl)
    rw[drop_cons hl,zdg] at q3
    have hla:=(hW.arc l (zA2 hl)).2
    simp only at hla
    generalize hRo:zg2 q (d:Int) l (M,b)=Ro at *
    have ihq':=ihq (q+1,Ro) ⟨by simp only;omega,by rw[← hRo,z3m];exact q2,q3⟩ (by simp only;omega)
    clear ihq q3
    obtain⟨R1,R2⟩:=Ro
    simp only at ihq'
    repeat' (first|(apply z01;(refine z04 (z0k (ys:=A.map z25) rfl (idx hl)) rfl rfl ?_))|refine stq ?_|refine fk (fun _=>?_) (fun _=>?_))
    all_goals try (exfalso;first|omega|(simp at *;done))
    refine z0a ?_
    refine z00 (z0p (fun z:Nat × List Int × Bool=>⟨76,[(1,.ptr (0,1) 0),(3,.ref (0,1000)),(6,I .i64 (d:Nat)),(7,B z.2.2),(8,I .i64 (q:Nat)),(36,.d (.slice (A.map z25))),(37,I .i64 A.length),(38,I .i64 (q:Nat)),(43,.d (z7t l)),(44,I .i64 l.length),(45,I .i64 (z.1:Nat))],[(1000,.row 3 1 (z.2.1.map icc)),(1,BX F A)],H⟩) (fun z=>z.1≤l.length∧z.2.1.length=F.length∧zg2 q (d:Int) (l.drop z.1) z.2=(R1,R2)) (fun z=>l.length-z.1) ?_ (0,M,b) ⟨zAf _,q2,hRo⟩) rfl rfl
    clear hRo q2
    rintro⟨j,N,c⟩ ⟨j1,j2,j3⟩ ihj
    simp only at j1 j2 j3 ihj ⊢
    by_cases hj:j<l.length
    · obtain⟨x,hx⟩:∃ x,l[j]? =some x:=⟨_,zA0 hj⟩
      have hx2:=hla x (zA2 hx)
      obtain⟨v,hv⟩:∃ v,N[q]? =some v:=⟨_,zA0 (by omega)⟩
      obtain⟨w,hw⟩:∃ w,N[x.2.2.toNat]? =some w:=⟨_,zA0 (by omega)⟩
      have hv2:N[((q:Nat):Int).toNat]? =some v:=by rw[zA9];exact hv
      have hw2:=hw
      have hls:=zt3 x
      rw[zi3] at hls
      rw[drop_cons hx] at j3
      have hset:N.set ((q:Nat):Int).toNat d=N.set q d:=by rw[zA9]
      by_cases h1:v<0
      · by_cases h2:w=(d:Int)-1
        · by_cases h3:0≤z88 x
          · exact zD88
          · rw[zee hv hw (fun g=>h3 g.2.2)] at j3
            exact zD37
        · rw[zee hv hw (fun g=>h2 g.2.1)] at j3
          exact zD37
      · rw[zee hv hw (fun g=>h1 g.1)] at j3
        exact zD37
    · exact zD68
  · exact zD75
def shB (a:Au):Bool:=decide (0≤(zv9 a).getD 0 0)
def shW (a:Au):List Int:=zoj a.A (zv9 a) ((zv9 a).getD 0 0).toNat 0
def shS (a:Au):ByteArray:=if 0≤(zv9 a).getD 0 0 then txE (shW a) else ByteArray.empty
theorem zhu (a:Au) (hf:z57 a) (h:vAu a≠0):z08 Tryz.prog 35 [.d (auD a)] (.tup [S ByteArray.empty,B false]):=by
 refine z0g fun H=>?_
 have hv:=z4c a hf
 generalize vAu a=v at *
 obtain⟨F,A⟩:=a
 refine z03 Tryz.func35 (by kernel_rfl) rfl (by simp) ?_
 dsimp only[Tryz.f35]
 repeat' (first|(apply z06;(refine z1i hv ?_))|(apply z0w;(refine z07 z2b ?_))|refine stq ?_|refine fk (fun _=>?_) (fun _=>?_))
 all_goals exact zD94
theorem zgi {l:List Arc} {i:Nat} {x y:Arc} {f:Arc→Bool} (hx:l[i]? =some x) (h:(l.drop i).find? f=some y):(f x=true∧x=y)∨(f x=false∧(l.drop (i+1)).find? f=some y):=by
 rw[drop_cons hx,List.find?_cons] at h
 cases e:f x with
 | true=>rw[e] at h;exact .inl ⟨rfl,by injection h⟩
 | false=>rw[e] at h;exact .inr ⟨rfl,h⟩
theorem zwx (o:ByteArray) (c:Int) (l:List Int):o++txE (c::l)=o++Utf8.encode c++txE l:=by
 rw[show c::l=[c]++l from rfl,y0q,zox,ByteArray.append_assoc]
theorem z4z (c:Int):(Utf8.encode c).size≤4:=by
 have:=(zus [c]).2
 rw[zox] at this
 simpa using this
theorem zyd {a:Au} (hW:AuW a) {D:List Int} (hdst:zq7 a D) (k q:Nat) (hq:D[q]? =some ((k:Int)+1)):∃ x,(a.A.getD q []).find? (zof D k)=some x∧0≤z88 x∧D[x.2.2.toNat]? =some (k:Int)∧0≤x.2.2∧x.2.2<a.F.length∧zoj a.A D (k+1) q=z88 x::zoj a.A D k x.2.2.toNat:=by
 have hql:=(zA1.1 hq).1
 obtain⟨x,x1,x2,x3,x4⟩:=y00 hdst (k:=k) hql (getD_some hq)
 have hx:=zkh hW x2
 have hl:x.2.2.toNat<D.length:=by rw[hdst.len];omega
 have e:D.getD x.2.2.toNat 0=D[x.2.2.toNat]:=by simp[List.getD,hl]
 refine⟨x,x1,x3,?_,hx.2.2.2.1,hx.2.2.2.2,by rw[zoj,x1]⟩
 rw[zA0 hl,← e,x4]
theorem znl {a:Au} (hf:z57 a) (h:vAu a=0):z08 Tryz.prog 35 [.d (auD a)] (.tup [S (shS a),B (shB a)]):=by
 have hW:=z8c h
 have hn:=(z3r h).few
 have hlen:=hW.len
 have hdst:=zjt hW
 have hbig:=zcj hW
 have hds:=zja h
 refine z0g fun H=>?_
 have hv:=z4c a hf
 rw[h] at hv
 have hp:=hW.pos
 rw[shB,shS,shW]
 generalize zv9 a=D at *
 have hDl:=hdst.len
 obtain⟨v0,hv0⟩:∃ v,D[0]? =some v:=⟨_,zA0 (by omega)⟩
 have hv00:D[(0:Int).toNat]? =some v0:=hv0
 rw[getD_some hv0]
 have hr0:=hdst.rng 0 (by omega)
 rw[getD_some hv0] at hr0
 obtain⟨F,A⟩:=a
 simp only at hn hlen hbig hp hDl hr0 ⊢
 by_cases h0:0≤v0
 case neg =>
  rw[zAy h0,zAo h0]
  refine z03 Tryz.func35 (by kernel_rfl) rfl (by simp) ?_
  dsimp only[Tryz.f35]
  repeat' (first|(apply z01;(refine z04 (z0k (ys:=D.map icc) rfl (zwq (g:=icc) hv00)) rfl rfl ?_))|(apply z06;(first|refine z1i hv ?_| refine z1i hds ?_))|(apply z0w;(refine z07 z2b ?_))|refine stq ?_|refine fk (fun _=>?_) (fun _=>?_))
  all_goals exact zD94
 rw[zAz h0,zAi h0]
 obtain⟨k0,rfl⟩:∃ k:Nat,v0=k:=⟨v0.toNat,by omega⟩
 rw[zA9]
 have hpath:=zyd (a:=⟨F,A⟩) hW hdst
 refine z03 Tryz.func35 (by kernel_rfl) rfl (by simp) ?_
 dsimp only[Tryz.f35]
 repeat' (first|(apply z01;(refine z04 (z0k (ys:=D.map icc) rfl (zwq (g:=icc) hv00)) rfl rfl ?_))|(apply z06;(first|refine z1i hv ?_| refine z1i hds ?_))|(apply z0w;(refine z07 z2b ?_))|refine stq ?_|fail)
 all_goals try (exfalso;first|omega|(simp at *;done))
 refine z0a ?_
 refine z00 (z0p (fun z:Nat × Nat × ByteArray=>⟨59,[(1,.ptr (0,1) 0),(4,.d (ints D)),(5,S z.2.2),(6,I .i64 (z.2.1:Nat))],[(1,BX F A)],H⟩) (fun z=>D[z.2.1]? =some (z.1:Int)∧z.2.2++txE (zoj A D z.1 z.2.1)=txE (zoj A D k0 0)∧z.2.2.size+4*z.1≤4*k0) (fun z=>z.1) ?_ (k0,0,ByteArray.empty) ⟨hv0,ByteArray.empty_append,by simp⟩) rfl rfl
 rintro⟨k,q,o⟩ ⟨i1,i2,i3⟩ ih
 simp only at i1 i2 i3 ih ⊢
 have hDq:D[((q:Nat):Int).toNat]? =some (k:Int):=by rw[zA9];exact i1
 have hql:=(zA1.1 i1).1
 cases k with
 | zero =>
  rw[zoj,zpj,ByteArray.append_empty] at i2
  subst i2
  clear ih
  repeat' (first|(apply z01;(refine z04 (z0k (ys:=D.map icc) rfl (idx (g:=icc) i1)) rfl rfl ?_))|refine stq ?_|fail)
  all_goals exact zD94
 | succ k =>
  obtain⟨y,y1,y2,y3,y4,y5,y6⟩:=hpath k q (by rw[i1];rfl)
  simp only at y1 y5 y6
  rw[y6,zwx] at i2
  have ih':=ih (k,y.2.2.toNat,o++Utf8.encode (z88 y)) ⟨y3,i2,by have:=z4z (z88 y);simp only[ByteArray.size_append];omega⟩ (by simp only;omega)
  simp only at ih'
  rw[Int.toNat_of_nonneg y4] at ih'
  clear ih i2
  obtain⟨l,hl⟩:∃ l,A[q]? =some l:=⟨_,zA0 (by omega)⟩
  have hll:=hbig l (zA2 hl)
  have hla:=(hW.arc l (zA2 hl)).2
  simp only at hla
  rw[List.getD,hl,Option.getD_some] at y1
  have hk0:k0≤256:=by omega
  repeat' (first|(apply z01;(first|refine z04 (z0k (ys:=D.map icc) rfl (idx (g:=icc) i1)) rfl rfl ?_| refine z04 (z0k (ys:=A.map z25) rfl (idx hl)) rfl rfl ?_))|refine stq ?_|refine fk (fun _=>?_) (fun _=>?_))
  all_goals try (exfalso;first|omega|(simp at *;done))
  refine z0a ?_
  refine z00 (z0p (fun z:Nat=>⟨59,[(1,.ptr (0,1) 0),(4,.d (ints D)),(5,S o),(6,I .i64 (q:Nat)),(28,.d (z7t l)),(29,I .i64 l.length),(30,I .i64 (z:Nat))],[(1,BX F A)],H⟩) (fun z=>z≤l.length∧(l.drop z).find? (zof D k)=some y) (fun z=>l.length-z) ?_ 0 ⟨zAf _,y1⟩) rfl rfl
  rintro j ⟨j1,j2⟩ ihj
  by_cases hj:j<l.length
  · obtain⟨x,hx⟩:∃ x,l[j]? =some x:=⟨_,zA0 hj⟩
    have hx2:=hla x (zA2 hx)
    have hls:=zt3 x
    rw[zi3] at hls
    obtain⟨w,hw⟩:∃ w,D[x.2.2.toNat]? =some w:=⟨_,zA0 (by omega)⟩
    rcases zgi hx j2 with ⟨e,rfl⟩|⟨e,j3⟩
    · rw[zof,getD_some hw,zA7,zA3,zA3] at e
      obtain⟨e1,e2⟩:=e
      repeat' (first|(apply z01;(refine z04 (z0k (ys:=l.map z1k) rfl (idx hx)) rfl rfl ?_))|(apply z02;(first|refine z09 (z0k (ys:=D.map icc) rfl (zwq (g:=icc) hw)) rfl rfl ?_| refine z09 (z0k (ys:=D.map icc) rfl (idx (g:=icc) i1)) rfl rfl ?_))|(apply z06;(refine z1i hls ?_))|(apply z52;(refine z04 (z7o rfl rfl) rfl rfl ?_))|refine stq ?_|refine fk (fun _=>?_) (fun _=>?_)|(apply z0y;(refine z04 (zg0 (by have:=z4z (z88 x);omega)) rfl rfl ?_))|(refine z19 (fun hg=>?_) (fun hg=>?_)<;> simp only[hg] <;> (try simp only[zA3,zA5,zA6,zA8] at hg)))
      all_goals exact zD18
    · rw[zof,getD_some hw] at e
      have ihj':=ihj (j+1) ⟨by omega,j3⟩ (by omega)
      by_cases e1:0≤z88 x
      · rw[zAi e1,Bool.true_and,zA5] at e
        all_goals exact zD21
      · skip
        all_goals exact zD21
  · rw[List.drop_eq_nil_of_le (by omega)] at j2
    cases j2
end Go.Proofs.YthdfkabdoidjfaaGreatDoor
