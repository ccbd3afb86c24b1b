/- A part of the proof: E1 to E3. -/
import Derived.Test.YthdfkabdoidjfaaGreatDoorUc
import Derived.Test.YthdfkabdoidjfaaGreatDoorUg
import Derived.Test.YthdfkabdoidjfaaGreatDoorU6
import Derived.Test.YthdfkabdoidjfaaGreatDoorU9
import Derived.Test.YthdfkabdoidjfaaGreatDoorUh
set_option linter.all false
namespace Go.Proofs.YthdfkabdoidjfaaGreatDoor
open Go.Ab Go.Ax Go.Rx
set_option maxHeartbeats 20000000
set_option maxRecDepth 100000
attribute [local irreducible] Run Ops Op1 z1d Val Tr z08 z13 NF Rel z2h z2g
def y6e (x:Arc):Int:=if x.1<55296∨57343<x.1 then x.1 else 57344
theorem zzl {x:Arc} (h:0≤z88 x):y6e x=z88 x:=by
 rw[z88] at h
 rw[y6e,z88]
 split
 · rfl
 · rename_i g
   rw[zAy g] at h
   split
   · rfl
   · rename_i g2;rw[zAy g2] at h;omega
theorem zlg (x:Arc) (h:0≤x.1):z08 Tryz.prog 68 [.d (.agg (z1k x))] (.tup [I .i32 (y6e x),B (decide (0≤z88 x))]):=by
 refine z0g fun H=>?_
 refine z03 Tryz.func68 (by kernel_rfl) rfl (by simp) ?_
 dsimp only[Tryz.f68]
 rw[z88,y6e]
 by_cases h1:x.1<55296∨57343<x.1
 · rw[zAz h1,zAz h1,zAi h]
   all_goals exact zD98
 · rw[zAy h1,zAy h1]
   have e:decide (0≤if 57343<x.2.1 then (57344:Int) else -1)=decide (57344≤x.2.1):=by
    split <;> simp <;> omega
   rw[e]
   all_goals exact zD98
theorem zn7 (a:Au) (hf:z57 a) (h:vAu a≠0):z08 Tryz.prog 36 [.d (auD a)] (.tup [S ByteArray.empty,B false]):=by
 refine z0g fun H=>?_
 have hv:=z4g a hf
 generalize vAu a=v at *
 obtain⟨F,A⟩:=a
 refine z03 Tryz.func36 (by kernel_rfl) rfl (by simp) ?_
 dsimp only[Tryz.f36]
 repeat' (first|(apply z06;(refine z1i hv ?_))|(apply z0w;(refine z07 z2b ?_))|refine stq ?_|refine fk (fun _=>?_) (fun _=>?_))
 all_goals exact zD95
theorem zv0 {a:Au} (hf:z57 a) (h:vAu a=0):z08 Tryz.prog 36 [.d (auD a)] (.tup [S (shS a),B (shB a)]):=by
 have hW:=z8c h
 have hn:=(z3r h).few
 have hlen:=hW.len
 have hdst:=zjt hW
 have hbig:=zcj hW
 refine z0g fun H=>?_
 have hva:=z4g a hf
 rw[h] at hva
 have hp:=hW.pos
 rw[shB,shS,shW]
 generalize zv9 a=D at *
 have hDl:=hdst.len
 obtain⟨v0,hv0⟩:∃ v,D[0]? =some v:=⟨_,zA0 (by omega)⟩
 have hv00:D[(0:Int).toNat]? =some v0:=hv0
 rw[getD_some hv0]
 have hr0:=hdst.rng 0 (by omega)
 rw[getD_some hv0] at hr0
 obtain⟨F,A⟩:=a
 simp only at hn hlen hbig hp hDl hr0 ⊢
 generalize hSS:(if 0≤v0 then txE (zoj A D v0.toNat 0) else ByteArray.empty)=SS
 refine z03 Tryz.func36 (by kernel_rfl) rfl (by simp) ?_
 dsimp only[Tryz.f36]
 repeat' (first|(apply z15;(refine z04 (z0s rfl) rfl rfl ?_))|(apply z06;(refine z1i hva ?_))|(apply z0w;(refine z07 z2b ?_))|(apply zb6;(refine zaw (xs:=(List.replicate F.length (0:Int)).map icc) rfl rfl (Int.natCast_nonneg _) (by show ((F.length:Nat):Int)≤_;omega) rfl rfl rfl (by decide) (by simp) ?_))|refine stq ?_|fail)
 all_goals try (exfalso;first|omega|(simp at *;done))
 refine z18 24 1000 ?_
 rw[show ((List.replicate F.length (0:Int)).length)=F.length by simp]
 refine z0a ?_
 refine z00 (z0p (fun q:Nat=>⟨138,[(1,.ptr (0,1) 0),(4,.ref (0,1000)),(26,I .i64 F.length),(27,I .i64 (q:Nat))],[(1000,.row 3 1 (((zba F).take q++List.replicate (F.length-q) 0).map icc)),(1,BX F A)],H⟩) (fun q=>q≤F.length) (fun q=>F.length-q) ?_ 0 (zAf _)) rfl rfl
 have hd0:(zba F).length=F.length:=by simp[zba]
 intro q hq ih
 by_cases hlt:q<F.length
 · exact zD7
 obtain rfl:q=F.length:=by omega
 clear ih hq hlt
 rw[Nat.sub_self,List.replicate_zero,List.append_nil,show (zba F).take F.length=zba F by rw[← hd0,List.take_length]]
 repeat' (first|refine stq ?_|refine fk (fun _=>?_) (fun _=>?_))
 all_goals try (exfalso;omega)
 refine z0a ?_
 refine z00 (z0p (fun q:Nat × List Int=>⟨138,[(1,.ptr (0,1) 0),(4,.ref (0,1000)),(6,I .i64 (q.1:Nat))],[(1000,.row 3 1 (q.2.map icc)),(1,BX F A)],H⟩) (fun q=>1≤q.1∧q.1≤F.length+1∧q.2.length=F.length∧znq ⟨F,A⟩ ((q.1:Int)-1) q.2) (fun q=>F.length+1-q.1) ?_ (1,zba F) ⟨zAj _,by simp only;omega,hd0,zs7 ⟨F,A⟩⟩) rfl rfl
 rintro⟨d,L⟩ ⟨d1,d2,d3,e2⟩ ih
 simp only at d1 d2 d3 e2 ih ⊢
 by_cases hdn:d≤F.length
 · have hps:=z9a (L:=L) (d:=(d:Int)) (by omega) (A:=A) (by omega) false
   have hst:=z6p (a:=⟨F,A⟩) (k:=(d:Int)-1) hlen (by omega) e2 false
   rw[show (d:Int)-1+1=d by omega] at hst
   simp only at hst
   generalize hP:zdg (d:Int) 0 A (L,false)=P at *
   have ihF:=ih (d+1,P.1) ⟨by simp only;omega,by simp only;omega,by rw[hps.1,d3],by rw[show (((d+1,P.1).1:Nat):Int)-1=d by simp only;omega];exact hst⟩ (by simp only;omega)
   clear ih hst hps e2
   obtain⟨P1,P2⟩:=P
   simp only at ihF
   repeat' (first|(apply z15;(refine z04 (z0s rfl) rfl rfl ?_))|refine stq ?_|refine fk (fun _=>?_) (fun _=>?_))
   all_goals try (exfalso;first|omega|(simp at *;done))
   refine z0a ?_
   refine z00 (z0p (fun q:Nat × List Int × Bool=>⟨138,[(1,.ptr (0,1) 0),(4,.ref (0,1000)),(6,I .i64 (d:Nat)),(49,I .i64 L.length),(50,I .i64 (q.1:Nat))],[(1000,.row 3 1 (q.2.1.map icc)),(1,BX F A)],H⟩) (fun q=>q.1≤A.length∧q.2.1.length=F.length∧zdg (d:Int) q.1 (A.drop q.1) q.2=(P1,P2)) (fun q=>A.length-q.1) ?_ (0,L,false) ⟨zAf _,d3,hP⟩) rfl rfl
   clear hP
   rintro⟨q,M,b⟩ ⟨q1,q2,q3⟩ ihq
   simp only at q1 q2 q3 ihq ⊢
   by_cases hq:q<A.length
   · obtain⟨l,hl⟩:∃ l,A[q]? =some l:=⟨_,zA0 hq⟩
     have hll:=hbig l (zA2 hl)
     rw[drop_cons hl,zdg] at q3
     have hla:=(hW.arc l (zA2 hl)).2
     simp only at hla
     generalize hRo:zg2 q (d:Int) l (M,b)=Ro at *
     have ihq':=ihq (q+1,Ro) ⟨by simp only;omega,by rw[← hRo,z3m];exact q2,q3⟩ (by simp only;omega)
     clear ihq q3
     obtain⟨R1,R2⟩:=Ro
     simp only at ihq'
     repeat' (first|(apply z01;(refine z04 (z0k (ys:=A.map z25) rfl (idx hl)) rfl rfl ?_))|refine stq ?_|refine fk (fun _=>?_) (fun _=>?_))
     all_goals try (exfalso;first|omega|(simp at *;done))
     refine z0a ?_
     refine z00 (z0p (fun z:Nat × List Int × Bool=>⟨138,[(1,.ptr (0,1) 0),(4,.ref (0,1000)),(6,I .i64 (d:Nat)),(7,I .i64 (q:Nat)),(49,I .i64 L.length),(50,I .i64 (q:Nat)),(57,.d (z7t l)),(58,I .i64 l.length),(59,I .i64 (z.1:Nat))],[(1000,.row 3 1 (z.2.1.map icc)),(1,BX F A)],H⟩) (fun z=>z.1≤l.length∧z.2.1.length=F.length∧zg2 q (d:Int) (l.drop z.1) z.2=(R1,R2)) (fun z=>l.length-z.1) ?_ (0,M,b) ⟨zAf _,q2,hRo⟩) rfl rfl
     clear hRo q2
     rintro⟨j,N,c⟩ ⟨j1,j2,j3⟩ ihj
     simp only at j1 j2 j3 ihj ⊢
     by_cases hj:j<l.length
     · obtain⟨x,hx⟩:∃ x,l[j]? =some x:=⟨_,zA0 hj⟩
       have hx2:=hla x (zA2 hx)
       obtain⟨v,hv⟩:∃ v,N[q]? =some v:=⟨_,zA0 (by omega)⟩
       obtain⟨w,hw⟩:∃ w,N[x.2.2.toNat]? =some w:=⟨_,zA0 (by omega)⟩
       have hv2:N[((q:Nat):Int).toNat]? =some v:=by rw[zA9];exact hv
       have hw2:=hw
       have hls:=zlg x hx2.1
       rw[drop_cons hx] at j3
       have hset:N.set ((q:Nat):Int).toNat d=N.set q d:=by rw[zA9]
       by_cases h3:0≤z88 x
       · by_cases h1:v<0
         · by_cases h2:w=(d:Int)-1
           · exact zD88
           · rw[zee hv hw (fun g=>h2 g.2.1)] at j3
             exact zD37
         · rw[zee hv hw (fun g=>h1 g.1)] at j3
           exact zD37
       · rw[zee hv hw (fun g=>h3 g.2.2)] at j3
         exact zD37
     · exact zD68
   · exact zD75
 obtain rfl:d=F.length+1:=by omega
 have e3:znq ⟨F,A⟩ ((⟨F,A⟩:Au).F.length:Nat) L:=by
  have:(((F.length+1:Nat):Int)-1)=((F.length:Nat):Int):=by omega
  rw[this] at e2;exact e2
 have hLD:D=L:=(zyu hW (y5i hW e3) hdst).symm
 clear ih e2 e3 d1 d2 d3 hdn
 subst hLD
 refine z0o 1000 rfl ?_
 by_cases h0:0≤v0
 case neg =>
  rw[zAy h0] at hSS
  subst hSS
  rw[zAo h0]
  repeat' (first|(apply z01;(refine z04 (z0k (ys:=D.map icc) rfl (zwq (g:=icc) hv00)) rfl rfl ?_))|refine stq ?_|refine fk (fun _=>?_) (fun _=>?_))
  all_goals exact zD95
 rw[zAz h0] at hSS
 subst hSS
 rw[zAi h0]
 obtain⟨k0,rfl⟩:∃ k:Nat,v0=k:=⟨v0.toNat,by omega⟩
 rw[zA9]
 have hpath:=zyd (a:=⟨F,A⟩) hW hdst
 repeat' (first|(apply z01;(refine z04 (z0k (ys:=D.map icc) rfl (zwq (g:=icc) hv00)) rfl rfl ?_))|refine stq ?_|refine fk (fun _=>?_) (fun _=>?_))
 all_goals try (exfalso;first|omega|(simp at *;done))
 refine z0a ?_
 refine z00 (z0p (fun z:Nat × Nat × ByteArray=>⟨138,[(1,.ptr (0,1) 0),(4,.d (ints D)),(12,S z.2.2),(13,I .i64 (z.2.1:Nat))],[(1,BX F A)],H⟩) (fun z=>D[z.2.1]? =some (z.1:Int)∧z.2.2++txE (zoj A D z.1 z.2.1)=txE (zoj A D k0 0)∧z.2.2.size+4*z.1≤4*k0) (fun z=>z.1) ?_ (k0,0,ByteArray.empty) ⟨hv0,ByteArray.empty_append,by simp⟩) rfl rfl
 rintro⟨k,q,o⟩ ⟨i1,i2,i3⟩ ih
 simp only at i1 i2 i3 ih ⊢
 have hDq:D[((q:Nat):Int).toNat]? =some (k:Int):=by rw[zA9];exact i1
 have hql:=(zA1.1 i1).1
 cases k with
 | zero =>
  rw[zoj,zpj,ByteArray.append_empty] at i2
  subst i2
  clear ih
  repeat' (first|(apply z01;(refine z04 (z0k (ys:=D.map icc) rfl (idx (g:=icc) i1)) rfl rfl ?_))|refine stq ?_|fail)
  all_goals exact zD95
 | succ k =>
  obtain⟨y,y1,y2,y3,y4,y5,y6⟩:=hpath k q (by rw[i1];rfl)
  simp only at y1 y5 y6
  rw[y6,zwx] at i2
  have ih':=ih (k,y.2.2.toNat,o++Utf8.encode (z88 y)) ⟨y3,i2,by have:=z4z (z88 y);simp only[ByteArray.size_append];omega⟩ (by simp only;omega)
  simp only at ih'
  rw[Int.toNat_of_nonneg y4] at ih'
  clear ih i2
  obtain⟨l,hl⟩:∃ l,A[q]? =some l:=⟨_,zA0 (by omega)⟩
  have hll:=hbig l (zA2 hl)
  have hla:=(hW.arc l (zA2 hl)).2
  simp only at hla
  rw[List.getD,hl,Option.getD_some] at y1
  have hk0:k0≤256:=by omega
  repeat' (first|(apply z01;(first|refine z04 (z0k (ys:=D.map icc) rfl (idx (g:=icc) i1)) rfl rfl ?_| refine z04 (z0k (ys:=A.map z25) rfl (idx hl)) rfl rfl ?_))|refine stq ?_|refine fk (fun _=>?_) (fun _=>?_))
  all_goals try (exfalso;first|omega|(simp at *;done))
  refine z0a ?_
  refine z00 (z0p (fun z:Nat=>⟨138,[(1,.ptr (0,1) 0),(4,.d (ints D)),(12,S o),(13,I .i64 (q:Nat)),(105,.d (z7t l)),(106,I .i64 l.length),(107,I .i64 (z:Nat))],[(1,BX F A)],H⟩) (fun z=>z≤l.length∧(l.drop z).find? (zof D k)=some y) (fun z=>l.length-z) ?_ 0 ⟨zAf _,y1⟩) rfl rfl
  rintro j ⟨j1,j2⟩ ihj
  by_cases hj:j<l.length
  · obtain⟨x,hx⟩:∃ x,l[j]? =some x:=⟨_,zA0 hj⟩
    have hx2:=hla x (zA2 hx)
    have hls:=zlg x hx2.1
    obtain⟨w,hw⟩:∃ w,D[x.2.2.toNat]? =some w:=⟨_,zA0 (by omega)⟩
    rcases zgi hx j2 with ⟨e,rfl⟩|⟨e,j3⟩
    · rw[zof,getD_some hw,zA7,zA3,zA3] at e
      obtain⟨e1,e2⟩:=e
      rw[zzl e1,zAi e1] at hls
      repeat' (first|(apply z01;(refine z04 (z0k (ys:=l.map z1k) rfl (idx hx)) rfl rfl ?_))|(apply z02;(first|refine z09 (z0k (ys:=D.map icc) rfl (zwq (g:=icc) hw)) rfl rfl ?_| refine z09 (z0k (ys:=D.map icc) rfl (idx (g:=icc) i1)) rfl rfl ?_))|(apply z06;(refine z1i hls ?_))|(apply z52;(refine z04 (z7o rfl rfl) rfl rfl ?_))|refine stq ?_|refine fk (fun _=>?_) (fun _=>?_)|(apply z0y;(refine z04 (zg0 (by have:=z4z (z88 x);omega)) rfl rfl ?_)))
      all_goals exact zD18
    · rw[zof,getD_some hw] at e
      have ihj':=ihj (j+1) ⟨by omega,j3⟩ (by omega)
      by_cases e1:0≤z88 x
      · rw[zAi e1,Bool.true_and,zA5] at e
        rw[zAi e1] at hls
        repeat' (first|(apply z01;(refine z04 (z0k (ys:=l.map z1k) rfl (idx hx)) rfl rfl ?_))|(apply z02;(first|refine z09 (z0k (ys:=D.map icc) rfl (zwq (g:=icc) hw)) rfl rfl ?_| refine z09 (z0k (ys:=D.map icc) rfl (idx (g:=icc) i1)) rfl rfl ?_))|(apply z06;(refine z1i hls ?_))|(apply z52;(refine z04 (z7o rfl rfl) rfl rfl ?_))|refine stq ?_|refine fk (fun _=>?_) (fun _=>?_)|(apply z0y;(refine z04 (zg0 (by have:=z4z (z88 x);omega)) rfl rfl ?_)))
        all_goals exact zD101
      · rw[zAo e1] at hls
        repeat' (first|(apply z01;(refine z04 (z0k (ys:=l.map z1k) rfl (idx hx)) rfl rfl ?_))|(apply z06;(refine z1i hls ?_))|refine stq ?_|refine fk (fun _=>?_) (fun _=>?_))
        all_goals exact zD101
  · rw[List.drop_eq_nil_of_le (by omega)] at j2
    cases j2
attribute [local irreducible] zb9
theorem y3s {x y:Operand} (r s:Arc) (w:World) (own:Nat→Prop) (us vs:List Value) (hu:DR w own (.agg (z1k r)) (.agg us.toArray)) (hv:DR w own (.agg (z1k s)) (.agg vs.toArray)) :
 (do eqGuard .neq 38 x y (.agg us.toArray) (.agg vs.toArray);binOp .neq 38 (.agg us.toArray) (.agg vs.toArray):Sem Value).run Tryz.prog w=.ok (.bool (!decide (r=s))) w:=by
 have e1:=DR.lits (xs:=[.int .i32 r.1,.int .i32 r.2.1,.int .i64 r.2.2]) hu
 have e2:=DR.lits (xs:=[.int .i32 s.1,.int .i32 s.2.1,.int .i64 s.2.2]) hv
 subst e1 e2
 have hf:(Tryz.prog.fieldsOf 38).toList.map (fun f=>(f.name == "_",f.type,f.offset))=[(false,21,0),(false,21,1),(false,3,2)]:=by kernel_rfl
 have hu:Tryz.prog.underlying 38=some (.struct (Tryz.prog.fieldsOf 38)):=by kernel_rfl
 have hs:Tryz.prog.stoodInHeld 38=false:=by kernel_rfl
 have hg:Tryz.prog.eqGuardType Tryz.prog.depth 38=false:=by kernel_rfl
 have hint:Tryz.prog.underlying 21=some (.int .i32):=T21.int rfl
 have hint3:Tryz.prog.underlying 3=some (.int .i64):=T3.int rfl
 have ha3:∀ w,(isAgg 21).run Tryz.prog w=.ok false w:=fun w=>T21.isAgg w
 have ha4:∀ w,(isAgg 3).run Tryz.prog w=.ok false w:=fun w=>T3.isAgg w
 rw[Sem.run_bind,run_eqGuard_agg _ _ _ _ _ _ _ hg,Result.andThen_ok,run_neq_struct,run_equalIn_struct w 9999 38 _ _ hu hs]
 generalize (Tryz.prog.fieldsOf 38).toList=fs at hf
 obtain⟨f1,f2,f3,rfl⟩:∃ f1 f2 f3,fs=[f1,f2,f3]:=by
  have hl:=congrArg List.length hf
  simp only[zA4,zAk,List.length_nil] at hl
  match fs,hl with
  | [a,b,c],_=>exact⟨a,b,c,rfl⟩
 simp only[List.map_cons,List.map_nil,List.cons.injEq,Prod.mk.injEq,beq_eq_false_iff_ne,ne_eq,and_true] at hf
 obtain⟨⟨n1,t1,o1⟩,⟨n2,t2,o2⟩,n3,t3,o3⟩:=hf
 obtain⟨r1,r2,r3⟩:=r
 obtain⟨s1,s2,s3⟩:=s
 simp only[Op.eqFields,n1,n2,n3,ne_eq,not_false_eq_true,if_true,t1,t2,t3,o1,o2,o3,part,Sem.run_bind,ha3,ha4,Result.andThen_ok,Bool.false_eq_true,if_false]
 by_cases g1:r1=s1
 · by_cases g2:r2=s2
   · by_cases g3:r3=s3
     · simp[run_equalIn_int _ _ _ _ _ _ _ hint,run_equalIn_int _ _ _ _ _ _ _ hint3,g1,g2,g3,ha3,ha4]
     · simp[run_equalIn_int _ _ _ _ _ _ _ hint,run_equalIn_int _ _ _ _ _ _ _ hint3,g1,g2,g3,ha3,ha4]
   · simp[run_equalIn_int _ _ _ _ _ _ _ hint,run_equalIn_int _ _ _ _ _ _ _ hint3,g1,g2,ha3,ha4]
 · simp[run_equalIn_int _ _ _ _ _ _ _ hint,run_equalIn_int _ _ _ _ _ _ _ hint3,g1,ha3,ha4]
theorem zcf {α:Type} {l m:List α} (hl:l.length=m.length) (h:l.take l.length=m.take l.length):l=m:=by
 rw[List.take_length,hl,List.take_length] at h;exact h
theorem zda {α:Type} {l m:List α} {k:Nat} {x:α} (h:l.take k=m.take k) (h1:l[k]? =some x) (h2:m[k]? =some x):l.take (k+1)=m.take (k+1):=by
 rw[z3n h1,z3n h2,h]
theorem y25 (a b:Au) (hf:z57 a) (hg:z57 b) (hab:a≠b):z08 Tryz.prog 23 [.d (auD a),.d (auD b)] (B false):=by
 refine z0g fun H=>?_
 obtain⟨F,A⟩:=a
 obtain⟨G,C⟩:=b
 obtain⟨f1,f2,f3⟩:=hf
 obtain⟨g1,g2,g3⟩:=hg
 simp only at f1 f2 f3 g1 g2 g3
 refine z03 Tryz.func23 (by kernel_rfl) rfl (by simp) ?_
 dsimp only[Tryz.f23]
 by_cases hl:F.length=G.length
 case neg =>
  all_goals exact zD139
 by_cases hm:A.length=C.length
 case neg =>
  all_goals exact zD139
 repeat' (first|(apply z0w;(refine z07 z2b ?_))|refine stq ?_|refine fk (fun _=>?_) (fun _=>?_))
 all_goals try (exfalso;first|omega|(simp at *;done)|(simp at *;omega))
 refine z0a ?_
 refine z00 (z0p (fun q:Nat=>⟨89,[(2,.ptr (0,2) 0),(3,.ptr (0,3) 0),(4,B false),(26,I .i64 F.length),(27,I .i64 (q:Nat))],[(2,.box [.d (z56 F),.d (.slice (A.map z25))]),(3,.box [.d (z56 G),.d (.slice (C.map z25))])],H⟩) (fun q=>q≤F.length∧F.take q=G.take q) (fun q=>F.length-q) ?_ 0 ⟨zAf _,rfl⟩) rfl rfl
 rintro i ⟨hi,hti⟩ ih
 by_cases hlt:i<F.length
 · obtain⟨b,hb⟩:∃ b,F[i]? =some b:=⟨_,zA0 hlt⟩
   obtain⟨c,hc⟩:∃ c,G[i]? =some c:=⟨_,zA0 (by omega)⟩
   by_cases hbc:b=c
   · subst hbc
     have ih':=ih (i+1) ⟨by omega,zda hti hb hc⟩ (by omega)
     cases b
     all_goals repeat' (first|(apply z02;(first|refine z09 (z0k (ys:=F.map boc) rfl (idx (g:=boc) hb)) rfl rfl ?_| refine z09 (z0k (ys:=G.map boc) rfl (idx (g:=boc) hc)) rfl rfl ?_))|refine stq ?_|refine fk (fun _=>?_) (fun _=>?_))
     all_goals exact zD18
   · clear ih
     cases b <;> cases c
     all_goals try exact absurd rfl hbc
     all_goals repeat' (first|(apply z02;(first|refine z09 (z0k (ys:=F.map boc) rfl (idx (g:=boc) hb)) rfl rfl ?_| refine z09 (z0k (ys:=G.map boc) rfl (idx (g:=boc) hc)) rfl rfl ?_))|refine stq ?_|refine fk (fun _=>?_) (fun _=>?_))
     all_goals exact zD140
 obtain rfl:i=F.length:=by omega
 have hFG:=zcf hl hti
 clear ih hi hti hlt
 subst hFG
 repeat' (first|refine stq ?_|refine fk (fun _=>?_) (fun _=>?_))
 all_goals try (exfalso;omega)
 refine z0a ?_
 refine z00 (z0p (fun q:Nat=>⟨89,[(2,.ptr (0,2) 0),(3,.ptr (0,3) 0),(4,B false),(44,I .i64 A.length),(45,I .i64 (q:Nat))],[(2,.box [.d (z56 F),.d (.slice (A.map z25))]),(3,.box [.d (z56 F),.d (.slice (C.map z25))])],H⟩) (fun q=>q≤A.length∧A.take q=C.take q) (fun q=>A.length-q) ?_ 0 ⟨zAf _,rfl⟩) rfl rfl
 rintro j ⟨hj,htj⟩ ih
 by_cases hjt:j<A.length
 · obtain⟨l,hl⟩:∃ l,A[j]? =some l:=⟨_,zA0 hjt⟩
   obtain⟨m,hm2⟩:∃ m,C[j]? =some m:=⟨_,zA0 (by omega)⟩
   have hll:=f3 l (zA2 hl)
   have hml:=g3 m (zA2 hm2)
   by_cases hlm:l.length=m.length
   case neg =>
    repeat' (first|(apply z01;(refine z04 (z0k (ys:=A.map z25) rfl (idx (g:=z25) hl)) rfl rfl ?_))|(apply z02;(first|refine z09 (z0k (ys:=A.map z25) rfl (idx (g:=z25) hl)) rfl rfl ?_| refine z09 (z0k (ys:=C.map z25) rfl (idx (g:=z25) hm2)) rfl rfl ?_))|refine stq ?_|refine fk (fun _=>?_) (fun _=>?_))
    all_goals exact zD81
   have ih':=fun e:l=m=>ih (j+1) ⟨by omega,zda htj hl (by rw[hm2,e])⟩ (by omega)
   repeat' (first|(apply z01;(refine z04 (z0k (ys:=A.map z25) rfl (idx (g:=z25) hl)) rfl rfl ?_))|(apply z02;(first|refine z09 (z0k (ys:=A.map z25) rfl (idx (g:=z25) hl)) rfl rfl ?_| refine z09 (z0k (ys:=C.map z25) rfl (idx (g:=z25) hm2)) rfl rfl ?_))|refine stq ?_|refine fk (fun _=>?_) (fun _=>?_))
   all_goals try (exfalso;first|omega|(simp at *;done)|(simp at *;omega))
   refine z0a ?_
   refine z00 (z0p (fun q:Nat=>⟨89,[(2,.ptr (0,2) 0),(3,.ptr (0,3) 0),(4,B false),(6,I .i64 (j:Nat)),(44,I .i64 A.length),(45,I .i64 (j:Nat)),(66,I .i64 l.length),(67,I .i64 (q:Nat))],[(2,.box [.d (z56 F),.d (.slice (A.map z25))]),(3,.box [.d (z56 F),.d (.slice (C.map z25))])],H⟩) (fun q=>q≤l.length∧l.take q=m.take q) (fun q=>l.length-q) ?_ 0 ⟨zAf _,rfl⟩) rfl rfl
   rintro k ⟨hk,htk⟩ ihk
   by_cases hkt:k<l.length
   · obtain⟨x,hx⟩:∃ x,l[k]? =some x:=⟨_,zA0 hkt⟩
     obtain⟨y,hy⟩:∃ y,m[k]? =some y:=⟨_,zA0 (by omega)⟩
     by_cases hxy:x=y
     · subst hxy
       have ihk':=ihk (k+1) ⟨by omega,zda htk hx hy⟩ (by omega)
       repeat' (first|(apply z02;(first|refine z09 (z0k (ys:=A.map z25) rfl (idx (g:=z25) hl)) rfl rfl ?_| refine z09 (z0k (ys:=C.map z25) rfl (idx (g:=z25) hm2)) rfl rfl ?_| refine z09 (z0k (ys:=l.map z1k) rfl (idx (g:=z1k) hx)) rfl rfl ?_| refine z09 (z0k (ys:=m.map z1k) rfl (idx (g:=z1k) hy)) rfl rfl ?_))|(apply z0z;(refine z09 (zqk (op:=.neq) (tx:=38) (y3w x)) rfl rfl ?_))|refine stq ?_|refine fk (fun _=>?_) (fun _=>?_))
       all_goals try (exfalso;first|omega|(simp at *;done))
       all_goals exact z00 ihk' rfl rfl
     · have hne:∀ {x' y':Operand} (w:World) (own:Nat→Prop) (us vs:List Value),DR w own (.agg (z1k x)) (.agg us.toArray)→DR w own (.agg (z1k y)) (.agg vs.toArray)→(do eqGuard .neq 38 x' y' (.agg us.toArray) (.agg vs.toArray);binOp .neq 38 (.agg us.toArray) (.agg vs.toArray):Sem Value).run Tryz.prog w=.ok (.bool true) w:=fun {x' y'} w own us vs h1 h2=>by
        have:=y3s (x:=x') (y:=y') x y w own us vs h1 h2
        rw[zAo hxy] at this
        exact this
       clear ihk ih' ih
       repeat' (first|(apply z02;(first|refine z09 (z0k (ys:=A.map z25) rfl (idx (g:=z25) hl)) rfl rfl ?_| refine z09 (z0k (ys:=C.map z25) rfl (idx (g:=z25) hm2)) rfl rfl ?_| refine z09 (z0k (ys:=l.map z1k) rfl (idx (g:=z1k) hx)) rfl rfl ?_| refine z09 (z0k (ys:=m.map z1k) rfl (idx (g:=z1k) hy)) rfl rfl ?_))|(apply z0z;(refine z09 (zqk (op:=.neq) (tx:=38) hne) rfl rfl ?_))|refine stq ?_|refine fk (fun _=>?_) (fun _=>?_))
       all_goals exact zD140
   · obtain rfl:k=l.length:=by omega
     clear ihk ih
     have ih2:=ih' (zcf hlm htk)
     clear ih'
     repeat' (first|refine stq ?_|refine fk (fun _=>?_) (fun _=>?_))
     all_goals try (exfalso;omega)
     all_goals exact z00 ih2 rfl rfl
 · obtain rfl:j=A.length:=by omega
   exact absurd (by rw[zcf hm htj]) hab
def zjx (a b:Au):Bool:=decide (a.F=b.F)&&decide (a.A=b.A)
theorem zbx {a b:Au}:zjx a b=true↔a=b:=by
 rw[zjx,zA7,zA3,zA3]
 constructor
 · rintro⟨h1,h2⟩
   obtain⟨F,A⟩:=a
   obtain⟨G,C⟩:=b
   simp only at h1 h2
   rw[h1,h2]
 · rintro rfl;exact⟨rfl,rfl⟩
theorem y5p (a b:Au) (hf:z57 a) (hg:z57 b):z08 Tryz.prog 23 [.d (auD a),.d (auD b)] (B (zjx a b)):=by
 by_cases h:zjx a b=true
 · rw[h]
   rw[zbx] at h
   subst h;exact y38 a hf
 · have h':=h
   rw[zbx] at h'
   rw[Bool.not_eq_true] at h
   rw[h];exact y25 a b hf hg h'
theorem zu2 {m:Au} (hm:Nrm m):(m.F.length=1∧m.F.getD 0 false=false)↔∀ w,m.acc 0 w=false:=by
 rcases hm with hm|rfl
 · constructor
   · rintro⟨h1,h2⟩ w
     obtain⟨f,hf⟩:∃ f,m.F=[f]:=by
      match hF:m.F,h1 with
      | [f],_=>exact⟨f,rfl⟩
     rw[hf] at h2
     have h2':f=false:=h2
     rw[Au.acc,Au.fin,hf,h2']
     split
     · rfl
     · cases (m.run 0 w).toNat <;> rfl
   · intro h
     obtain⟨w,hw⟩:=hm.live 0 (by omega) (by have:=hm.pos;omega)
     rw[h w] at hw;cases hw
 · exact⟨fun _=>z7p,fun _=>⟨rfl,rfl⟩⟩
def zu1 (m:Au):Bool:=decide (m.F.length=1)&&!(m.F.getD 0 false)
theorem zv3 {m a:Au} (hm:Nrm m) (ha:AuW a) (h:∀ w,m.acc 0 w=a.acc 0 w):zu1 m=zix a:=by
 rw[Bool.eq_iff_iff,zmt ha,zu1,zA7,zA3,zA6,zu2 hm]
 exact⟨fun g w=>by rw[← h,g],fun g w=>by rw[h,g]⟩
theorem zo7 (a:Au) (hf:z57 a) (h:vAu a≠0):z08 Tryz.prog 38 [.d (auD a)] (B false):=by
 refine z0g fun H=>?_
 have hv:=z4g a hf
 generalize vAu a=v at *
 obtain⟨F,A⟩:=a
 refine z03 Tryz.func38 (by kernel_rfl) rfl (by simp) ?_
 dsimp only[Tryz.f38]
 repeat' (first|(apply z06;(refine z1i hv ?_))|(apply z0w;(refine z07 z2b ?_))|refine stq ?_|refine fk (fun _=>?_) (fun _=>?_))
 all_goals exact zD82
theorem zvh {a m:Au} (hf:z57 a) (hv:vAu a=0) (hm:z08 Tryz.prog 22 [.d (auD a)] (.tup [.d (auD m),I .i64 0])) (hp:0<m.F.length) (hml:m.F.length≤1000000):z08 Tryz.prog 38 [.d (auD a)] (B (zu1 m)):=by
 refine z0g fun H=>?_
 have hva:=z4g a hf
 rw[hv] at hva
 rw[zu1]
 obtain⟨F,A⟩:=a
 obtain⟨G,C⟩:=m
 simp only at hp hml ⊢
 obtain⟨b,hb⟩:∃ b,G[0]? =some b:=⟨_,zA0 hp⟩
 have hb0:G[(0:Int).toNat]? =some b:=hb
 rw[getD_some hb]
 refine z03 Tryz.func38 (by kernel_rfl) rfl (by simp) ?_
 dsimp only[Tryz.f38]
 by_cases h1:G.length=1
 · rw[zAi h1]
   cases b
   all_goals repeat' (first|(apply z01;(refine z04 (z0k (ys:=G.map boc) rfl (idx (g:=boc) hb0)) rfl rfl ?_))|(apply z06;(first|refine z1i hva ?_| refine z1i hm ?_))|(apply z0w;(refine z07 z2b ?_))|refine stq ?_|refine fk (fun _=>?_) (fun _=>?_))
   all_goals exact zD82
 · rw[zAo h1]
   repeat' (first|(apply z06;(first|refine z1i hva ?_| refine z1i hm ?_))|(apply z0w;(refine z07 z2b ?_))|refine stq ?_|refine fk (fun _=>?_) (fun _=>?_))
   all_goals exact zD82
theorem ze2 (a b:Au) (hfa:z57 a) (hfb:z57 b) (h:vAu a≠0∨vAu b≠0):z08 Tryz.prog 37 [.d (auD a),.d (auD b)] (.tup [B false,I .i64 1]):=by
 refine z0g fun H=>?_
 have hva:=z4g a hfa
 have hvb:=z4g b hfb
 generalize vAu a=u at *
 generalize vAu b=v at *
 by_cases h1:u=0
 · subst h1
   have h2:v≠0:=by omega
   exact zD50
 · skip
   exact zD50
theorem ztr {a b m n:Au} (hfa:z57 a) (hfb:z57 b) (ha:vAu a=0) (hb:vAu b=0) (hm:z08 Tryz.prog 22 [.d (auD a)] (.tup [.d (auD m),I .i64 0])) (hn:z08 Tryz.prog 22 [.d (auD b)] (.tup [.d (auD n),I .i64 0])) (hfm:z57 m) (hfn:z57 n):z08 Tryz.prog 37 [.d (auD a),.d (auD b)] (.tup [B (zjx m n),I .i64 0]):=by
 refine z0g fun H=>?_
 have hva:=z4g a hfa
 have hvb:=z4g b hfb
 rw[ha] at hva
 rw[hb] at hvb
 have hs:=y5p m n hfm hfn
 generalize zjx m n=r at *
 obtain⟨F,A⟩:=a
 obtain⟨G,C⟩:=b
 obtain⟨mF,mA⟩:=m
 obtain⟨nF,nA⟩:=n
 refine z03 Tryz.func37 (by kernel_rfl) rfl (by simp) ?_
 dsimp only[Tryz.f37]
 repeat' (first|(apply z06;(first|refine z1i hva ?_| refine z1i hvb ?_| refine z1i hm ?_| refine z1i hn ?_| refine z1i hs ?_))|(apply z0w;(refine z07 z2b ?_))|refine stq ?_|fail)
 all_goals try (exfalso;first|omega|(simp at *;done)|(simp at *;omega))
 all_goals exact z05 Tryz.func37 _ z2w ⟨rfl,rfl⟩
theorem zn2 (a:Au) (hf:z57 a):∃ s ok,z08 Tryz.prog 35 [.d (auD a)] (.tup [S s,B ok])∧z08 Tryz.prog 36 [.d (auD a)] (.tup [S s,B ok]):=by
 by_cases h:vAu a=0
 · exact⟨_,_,znl hf h,zv0 hf h⟩
 · exact⟨_,_,zhu a hf h,zn7 a hf h⟩
theorem zeq {n:Nat} (a:Au) (hf:z57 a) (h:vAu a=0) (hb:¬ lgA n a=true) (hn:n≤19):z08 Tryz.prog 22 [.d (auD a)] (.tup [.d (auD (zml a)),I .i64 0]):=by
 have hW:=z8c h
 have hsz:=zqn hb
 obtain⟨g1,g2,g3,g4,g5⟩:=zbf hW (z3r h).few
 obtain⟨m,m2,k1,k2⟩:=zjo a hf h hW (by omega) (y3h hb hf)
 have he:m=zml a:=zy8 k1 g1 fun w=>by rw[k2,g4]
 rw[he] at m2;exact m2
theorem znc {n:Nat} (a:Au) (hf:z57 a) (hb:¬ lgA n a=true) (hn:n≤19):∃ x,z08 Tryz.prog 32 [.d (auD a)] (B x)∧z08 Tryz.prog 38 [.d (auD a)] (B x):=by
 by_cases h:vAu a=0
 · have hW:=z8c h
   obtain⟨g1,g2,g3,g4,g5⟩:=zbf hW (z3r h).few
   have hr:=zvh hf h (zeq a hf h hb hn) g2.pos (by have:=(z3r h).few;omega)
   rw[zv3 g1 hW g4] at hr
   exact⟨_,y04 a hf h (z3r h).few,hr⟩
 · exact⟨_,zqd a hf h,zo7 a hf h⟩
theorem zns (a b:Au) (hfa:z57 a) (hfb:z57 b) (hba:¬ lgA 12 a=true) (hbb:¬ lgA 12 b=true):∃ r e,z08 Tryz.prog 31 [.d (auD a),.d (auD b)] (.tup [B r,I .i64 e])∧z08 Tryz.prog 37 [.d (auD a),.d (auD b)] (.tup [B r,I .i64 e]):=by
 by_cases ha:vAu a=0
 · by_cases hb:vAu b=0
   · obtain⟨r,mr,er⟩:=zz0 (zyf (n:=12) hfa ha hba) (zyf (n:=12) hfb hb hbb) (by decide)
     obtain⟨g1,g2,g3,g4,g5⟩:=zbf (z8c ha) (z3r ha).few
     obtain⟨j1,j2,j3,j4,j5⟩:=zbf (z8c hb) (z3r hb).few
     have hq:=ztr hfa hfb ha hb (zeq a hfa ha hba (by decide)) (zeq b hfb hb hbb (by decide)) (zqz (zwy g2 (by have:=(z3r ha).few;omega))) (zqz (zwy j2 (by have:=(z3r hb).few;omega)))
     have e:zjx (zml a) (zml b)=r:=by
      rw[Bool.eq_iff_iff,er,zbx]
      constructor
      · intro h w;rw[← g4,← j4,h]
      · intro h;exact zy8 g1 j1 fun w=>by rw[g4,j4,h]
     rw[e] at hq
     exact⟨_,_,mr,hq⟩
   · exact⟨_,_,zgx a b hfa hfb (.inr hb),ze2 a b hfa hfb (.inr hb)⟩
 · exact⟨_,_,zgx a b hfa hfb (.inl ha),ze2 a b hfa hfb (.inl ha)⟩
theorem zro (τ:Tab) (a b:Au) (hfa:z57 a) (hfb:z57 b):z13 Tryz.prog 14 [.d (auD a),.d (auD b)] (zfw τ 0) [] (B true):=by
 refine z1e fun H hH=>?_
 have hX0:=hH ((0,700),.glob 0 τ.o0) (by simp)
 have hX1:=hH ((0,701),.glob 1 τ.o1) (by simp)
 have haw:=y0t τ
 have hlg:=zz9 12 (by omega) [a,b] (by simp) (by simpa using ⟨hfa,hfb⟩)
 rw[zzs] at hlg
 by_cases hb:(lgA 12 a||lgA 12 b)=true
 · rw[hb] at hlg
   obtain⟨F,A⟩:=a
   obtain⟨G,C⟩:=b
   refine z03 Tryz.func14 (by kernel_rfl) rfl (by simp) ?_
   dsimp only[Tryz.f14]
   refine z99 700 0 700 hX0 ?_
   refine z99 701 0 701 (z0q hX1 (by simp)) ?_
   repeat' (first|(apply z06;(refine z1i hlg ?_))|(apply z0w;(refine z07 z2b ?_))|refine stq ?_|fail)
   all_goals exact zD69
 have hb':=hb
 rw[zAu,not_or] at hb'
 rw[Bool.not_eq_true] at hb
 rw[hb] at hlg
 obtain⟨s,ok,h1,h2⟩:=zn2 a hfa
 obtain⟨x,h3,h4⟩:=znc (n:=12) a hfa hb'.1 (by decide)
 obtain⟨r,e,h5,h6⟩:=zns a b hfa hfb hb'.1 hb'.2
 obtain⟨F,A⟩:=a
 obtain⟨G,C⟩:=b
 refine z03 Tryz.func14 (by kernel_rfl) rfl (by simp) ?_
 dsimp only[Tryz.f14]
 refine z99 700 0 700 hX0 ?_
 refine z99 701 0 701 (z0q hX1 (by simp)) ?_
 cases x <;> cases ok <;> cases r
 all_goals repeat' (first|(apply z06;(first|refine z1i hlg ?_| refine z1i h1 ?_| refine z1i h2 ?_| refine z1i h5 ?_| refine z1i h6 ?_))|(apply z0l;(first|refine zt0 haw (by first|exact rfl|exact⟨_,rfl,rfl,rfl⟩) rfl rfl (by decide) ?_|refine z36 h3 ?_| refine z36 h4 ?_))|(apply z0w;(refine z07 z2b ?_))|refine stq ?_|(refine z19 (fun hg=>?_) (fun hg=>?_)<;> simp only[hg] <;> (try simp only[zA3,zA5,zA6,zA8] at hg)))
 all_goals exact zD69
end Go.Proofs.YthdfkabdoidjfaaGreatDoor
