/- Blocks of steps that end a branch. -/
import Derived.WalkKit
import Derived.RangeFuncRecord
import Derived.Laws.StructEq
import Derived.KernelRfl
import Derived.Great.BuildSlice
set_option maxRecDepth 1000000
set_option maxHeartbeats 20000000
theorem zA0:type_of% @List.getElem?_eq_getElem:=@List.getElem?_eq_getElem
theorem zA1:type_of% @List.getElem?_eq_some_iff:=@List.getElem?_eq_some_iff
theorem zA2:type_of% @List.mem_of_getElem?:=@List.mem_of_getElem?
theorem zA3:type_of% @decide_eq_true_eq:=@decide_eq_true_eq
theorem zA4:type_of% @List.length_map:=@List.length_map
theorem zA5:type_of% @decide_eq_false_iff_not:=@decide_eq_false_iff_not
theorem zA6:type_of% @Bool.not_eq_true':=@Bool.not_eq_true'
theorem zA7:type_of% @Bool.and_eq_true:=@Bool.and_eq_true
theorem zA8:type_of% @Bool.not_eq_false':=@Bool.not_eq_false'
theorem zA9:type_of% @Int.toNat_natCast:=@Int.toNat_natCast
theorem zAa:type_of% @List.length_append:=@List.length_append
theorem zAb:type_of% @List.getElem?_append_left:=@List.getElem?_append_left
theorem zAc:type_of% @List.mem_cons:=@List.mem_cons
theorem zAd:type_of% @List.getElem?_map:=@List.getElem?_map
theorem zAe:type_of% @Array.length_toList:=@Array.length_toList
theorem zAf:type_of% @Nat.zero_le:=@Nat.zero_le
theorem zAg:type_of% @List.getElem?_append_right:=@List.getElem?_append_right
theorem zAh:type_of% @Option.some.injEq:=@Option.some.injEq
theorem zAi:type_of% @decide_eq_true:=@decide_eq_true
theorem zAj:type_of% @Nat.le_refl:=@Nat.le_refl
theorem zAk:type_of% @List.length_cons:=@List.length_cons
theorem zAl:type_of% @List.append_assoc:=@List.append_assoc
theorem zAm:type_of% @List.length_take:=@List.length_take
theorem zAn:type_of% @List.length_singleton:=@List.length_singleton
theorem zAo:type_of% @decide_eq_false:=@decide_eq_false
theorem zAp:type_of% @List.getElem?_set_self:=@List.getElem?_set_self
theorem zAq:type_of% @List.mem_singleton:=@List.mem_singleton
theorem zAr:type_of% @List.length_replicate:=@List.length_replicate
theorem zAs:type_of% @List.drop_length:=@List.drop_length
theorem zAt:type_of% @List.mem_append:=@List.mem_append
theorem zAu:type_of% @Bool.or_eq_true:=@Bool.or_eq_true
theorem zAv:type_of% @List.getElem?_eq_none:=@List.getElem?_eq_none
theorem zAw:type_of% @List.getElem?_of_mem:=@List.getElem?_of_mem
theorem zAx:type_of% @Nat.lt_of_lt_of_le:=@Nat.lt_of_lt_of_le
theorem zAy:type_of% @if_neg:=@if_neg
theorem zAz:type_of% @if_pos:=@if_pos
theorem zD1 {p:Prop} (h:p:=by
 rintro⟨n,K⟩ ⟨p1,p2⟩ ih4
 simp only at p1 p2 ih4 ⊢
 by_cases hltw:n<W.length
 · have hwn:=z3n hltw
   have hvn:=hW.vld _ (z4l hltw)
   have hsn:=hW.size _ (z4l hltw)
   rw[drop_cons hwn,zib,List.foldl_cons,← zib] at p2
   generalize wd W n=w at *
   obtain⟨K9,hK9⟩:∃ K9,y04 ⟨F,A⟩ L0 K w=K9:=⟨_,rfl⟩
   rw[hK9] at p2
   have ih4':=ih4 (n+1,K9) ⟨by simp only;omega,p2⟩ (by simp only;omega)
   simp only at ih4'
   clear ih4
   rw[y04] at hK9
   have hu:=zkp w (by omega)
   obtain⟨L,hL⟩:∃ L,(uQ 0 (rst w 0)).map okf=L:=⟨_,rfl⟩
   rw[hL] at hu
   have hLl:L.length≤1000:=by
    rw[← hL,zA4,zi1]
    have:=z5l w (w.size-0) 0 (zAj _)
    omega
   repeat' (first|(apply z06;(refine z0b (z1a (ys:=W.map stc) rfl (idx hwn)) rfl rfl ?_))|(apply z03;(refine z1i hu ?_))|refine z05 ?_|refine fk (fun _=>?_) (fun _=>?_))
   all_goals try (exfalso;omega)
   refine z0j ?_
   refine z01 (z0z (fun z1:Nat × Nat × Int × List ByteArray=>⟨108,[(2,.ptr (0,2) 0),(3,.ptr (0,3) 0),(6,.ref (0,21)),(10,.ref (0,58)),(70,.d (.slice (W.map stc))),(71,I .i64 W.length),(72,I .i64 (n:Nat)),(12,S w),(13,I .i64 z1.2.2.1),(77,.d (.slice (L.map uqc))),(78,I .i64 L.length),(79,I .i64 (z1.1:Nat))],[(2,.box [.d (.slice (W.map stc)),.d z]),(3,.box [.d (zeb F),.d (.slice (A.map z6w))]),(21,.row 4 1 (L0.map boc)),(58,mpK z1.2.2.2)],H⟩)
    (fun z1=>z1.1≤L.length∧z1.2.1≤w.size∧z1.2.2.1<F.length∧L.drop z1.1=(uQ z1.2.1 (rst w z1.2.1)).map okf∧(∀ u∈rst w z1.2.1,u.n=zE u.r)∧(rfP ⟨F,A⟩ L0 z1.2.2.1 ((rst w z1.2.1).map (·.r)) z1.2.1).foldl (fun K e=>zal K (w.extract 0 e)) z1.2.2.2=K9) (fun z1=>L.length-z1.1) ?_ (0,0,0,K) ⟨zAf _,zAf _,by simp only;omega,hL.symm,z9x hvn,hK9⟩) rfl rfl
   rintro⟨j,i,q,K1⟩ ⟨q1,q2,q3,q4,q5,q6⟩ ih5
   simp only at q1 q2 q3 q4 q5 q6 ih5 ⊢
   by_cases hlt2:i<w.size
   · have hd:=z2z hlt2
     have hw:=z5m w i hlt2
     rw[hd,uQ,List.map_cons] at q4
     rw[hd] at q5 q6
     have hwz:=q5 _ (List.mem_cons_self ..)
     have q5':=fun u hu=>q5 u (List.mem_cons_of_mem _ hu)
     simp only at hwz
     rw[List.map_cons,rfP] at q6
     simp only[← hwz] at q6
     have hjl:j<L.length:=by
      rcases Nat.lt_or_ge j L.length with g|g
      · exact g
      · rw[List.drop_eq_nil_of_le g] at q4;cases q4
     have hLj:L[j]? =some (okf (((Utf8.decode w i).1:Nat),(i:Int),((Utf8.decode w i).2:Nat),false)):=by
      rw[zA0 hjl]
      rw[List.drop_eq_getElem_cons hjl] at q4
      rw[(List.cons.inj q4).1]
     have q4':L.drop (j+1)=(uQ (i+(Utf8.decode w i).2) (rst w (i+(Utf8.decode w i).2))).map okf:=by
      rw[List.drop_eq_getElem_cons hjl] at q4
      exact(List.cons.inj q4).2
     have hn:=hnx q q3 ((Utf8.decode w i).1:Nat)
     have hnl2:=hnl q q3 ((Utf8.decode w i).1:Nat)
     have ih5':=fun K2 h=>ih5 (j+1,i+(Utf8.decode w i).2,Au.nx ⟨F,A⟩ q ((Utf8.decode w i).1:Nat),K2) ⟨by simp only;omega,by simp only;omega,hnl2,q4',q5',h⟩ (by simp only;omega)
     simp only at ih5'
     clear ih5 q5 q5' q4 q4' hd
     generalize Au.nx ⟨F,A⟩ q ((Utf8.decode w i).1:Nat)=qn at *
     dsimp only[okf] at hLj
     generalize (!decide ((((Utf8.decode w i).1:Nat):Int)=65533)||decide ((((Utf8.decode w i).2:Nat):Int)=3))=okb at *
     generalize (Utf8.decode w i).1=dr at *
     generalize (Utf8.decode w i).2=dn at *
     have hLk:(L.map uqc)[((j:Nat):Int).toNat]? =some [z1k (dr:Nat),z4g (i:Nat),z4g (dn:Nat),zdh okb]:=by simp[hLj]
     by_cases hc:0≤qn∧L0.getD qn.toNat false=true
     · rw[zAz hc,List.foldl_cons] at q6
       obtain⟨hc1,hc2⟩:=hc
       have hLq:L0[qn.toNat]? =some true:=by rw[← hc2];exact Go.Lx.getD_some (by omega)
       have ih6:=ih5' _ q6
       have hto:((i:Int)+(dn:Int)).toNat=i+dn:=by omega
       have hput:=zh2 (w.extract 0 (i+dn)) K1
       rw[← hto] at hput
       rw[show mpK (zal K1 (w.extract 0 (i+dn)))=.mp ((z99 (zpy K1) (w.extract 0 ((i:Int)+(dn:Int)).toNat) (.lit (.bool true))).map fun p=>(Value.string p.1,p.2)) by rw[hput,hto]] at ih6
       clear ih5' q6
       repeat' (first|(apply z16;(refine zmm (q:=zpy K1) (a:=w.extract 0 ((i:Int)+(dn:Int)).toNat) (v:=.lit (.bool true)) (g:=fun x:ByteArray=>Value.string x) zop y4i zfm rfl rfl rfl rfl rfl ?_))|(apply z0f;(refine z0b (z0i hLq) rfl rfl ?_))|(apply z06;(first|refine z0b (z1a (ys:=L.map uqc) rfl hLk) rfl rfl ?_| refine z0b (z1c rfl (by rw[zA4];omega)) rfl rfl ?_))|(apply zcr;(refine z0b (z65 rfl (by omega) (by omega)) rfl rfl ?_))|(apply z03;(refine z1i hn ?_))|(apply z1p;(refine z0e z3r ?_))|refine z05 ?_|refine fk (fun _=>?_) (fun _=>?_))
       all_goals try (exfalso;first|omega|(simp at *;done))
       all_goals exact z01 ih6 rfl rfl
     · rw[zAy hc] at q6
       have ih6:=ih5' _ q6
       clear ih5' q6
       by_cases hc1:0≤qn
       · have hc2:L0.getD qn.toNat false=false:=by
          cases e:L0.getD qn.toNat false with
          | false=>rfl
          | true=>exact absurd ⟨hc1,e⟩ hc
         have hLq:L0[qn.toNat]? =some false:=by rw[← hc2];exact Go.Lx.getD_some (by omega)
         repeat' (first|(apply z0f;(refine z0b (z0i hLq) rfl rfl ?_))|(apply z06;(first|refine z0b (z1a (ys:=L.map uqc) rfl hLk) rfl rfl ?_| refine z0b (z1c rfl (by rw[zA4];omega)) rfl rfl ?_))|(apply z03;(refine z1i hn ?_))|(apply z1p;(refine z0e z3r ?_))|refine z05 ?_|refine fk (fun _=>?_) (fun _=>?_))
         all_goals try (exfalso;first|omega|(simp at *;done))
         all_goals exact z01 ih6 rfl rfl
       · repeat' (first|(apply z06;(refine z0b (z1a (ys:=L.map uqc) rfl hLk) rfl rfl ?_))|(apply z03;(refine z1i hn ?_))|(apply z1p;(refine z0e z3r ?_))|refine z05 ?_|refine fk (fun _=>?_) (fun _=>?_))
         all_goals try (exfalso;first|omega|(simp at *;done))
         all_goals exact z01 ih6 rfl rfl
   · obtain rfl:i=w.size:=by omega
     rw[z1w (zAj _)] at q4 q6
     rw[List.map_nil,rfP,List.foldl_nil] at q6
     subst q6
     have hjl:¬ j<L.length:=fun g=>by
      rw[List.drop_eq_getElem_cons g] at q4;cases q4
     clear ih5
     repeat' (first|refine z05 ?_|refine fk (fun _=>?_) (fun _=>?_))
     all_goals try (exfalso;omega)
     all_goals exact z01 ih4' rfl rfl
 · obtain rfl:n=W.length:=by omega
   rw[zAs,zib,List.foldl_nil] at p2
   rw[← p2] at key1
   clear ih4
   rw[← key1]
   have hsl:(zpy K).length=K.length:=zA4 ..
   repeat' (first|(apply z16;(refine z0e (zlq (es:=(zpy K).map fun p=>(Value.string p.1,p.2)) zop rfl rfl (by decide)) ?_))|refine z05 ?_|refine fk (fun _=>?_) (fun _=>?_))
   all_goals try (exfalso;omega)
   all_goals first|exact z00 Tryz.func19 _ z0s ⟨rfl,rfl⟩|exact z00 Tryz.func19 _ z0s ⟨by simp,rfl⟩):p:=h
theorem zD2 {p:Prop} (h:p:=by
 rw[zAy hend] at i4
 have hm:=zcl hX0 hX1 τ s hs j i1 (e0+1)
 have hnd:acc.length≠0→nx (rst s j)≠93:=fun h h2=>hend ⟨fun h3=>h (by rw[h3];rfl),h2⟩
 rcases hp:z9d spC (rst s j) with ⟨a,r⟩|⟨a,e⟩|_
 · obtain⟨⟨ha0,ha1⟩,j1,hj1,hj1s,rfl⟩:=zfv i1 hp
   rw[hp,z3w hj1s] at hm
   have hn2:=z47 (X:=X) τ s j1 hj1s 0 0 (e0+1)
   by_cases h45:nx (rst s j1)=45
   · obtain⟨hjl,htj,hej⟩:=z2h hj1s h45 (by decide) (by decide)
     have hm2:=zcl hX0 hX1 τ s hs (j1+1) hjl (e0+1)
     rcases hp2:z9d spC (rst s (j1+1)) with ⟨b,r⟩|⟨b,e⟩|_
     · obtain⟨⟨hb0,hb1⟩,j2,hj2,hj2s,rfl⟩:=zfv hjl hp2
       rw[hp2,z3w hj2s] at hm2
       by_cases hba:b<a
       · have hpr:z9a (rst s j)=.err (rst s j) 8:=by
          rw[z9a,hp];simp only
          rw[zAz h45,htj,hp2];simp only
          rw[zAz hba]
         rw[hpr] at i4
         subst i4
         rw[zs5,z5f i1]
         have hf:=z5q (X:=X) s (I .i64 (j2:Nat)) (j:Nat) 8 (e0+1) (by decide)
         repeat' (first|(apply z0f;(refine z2q (z02 _ (e0,X) _) ?_))|(apply z03;(first|refine z2y hf rfl (z02 _ (e0,X) _) (by decide) ?_|refine z1y hm2 (z02 _ (e0,X) _) (bkT (by repeat (first|exact hT|refine HT.upd ?_ hX0 hX1))) ?_| refine z1y hm (z02 _ (e0,X) _) (bkT (by repeat (first|exact hT|refine HT.upd ?_ hX0 hX1))) ?_| refine z0p hn2 (z09 (m:=(e0+1,X)) (z02 _ (e0,X) _) (bkT (by repeat (first|exact hT|refine HT.upd ?_ hX0 hX1)))) ?_| refine z0p hnj (z09 (m:=(e0+1,X)) (z02 _ (e0,X) _) (bkT (by repeat (first|exact hT|refine HT.upd ?_ hX0 hX1)))) ?_))|(apply z0n;(refine z1u (raw':=pbx s ((j1+1:Nat):Int) 0 0) (z02 _ (e0,X) _) ?_))|refine z05 ?_|refine fk (fun _=>?_) (fun _=>?_))
         all_goals try (exfalso;omega)
         all_goals ((repeat rw[z0c]);refine z4v wkP ?_;first|exact z00 Tryz.func208 _ (z04 rfl rfl rfl rfl rfl rfl rfl) ⟨rfl,rfl⟩|exact z00 Tryz.func208 _ z0s ⟨rfl,rfl⟩|exact z00 Tryz.func208 _ z13 ⟨rfl,rfl⟩|exact z00 Tryz.func208 _ z1m ⟨rfl,rfl⟩)
       · have hpr:z9a (rst s j)=.ok (a,b) (rst s j2):=by
          rw[z9a,hp];simp only
          rw[zAz h45,htj,hp2];simp only
          rw[zAy hba]
         rw[hpr] at i4
         simp only at i4
         repeat' (first|(apply z0f;(refine z2q (z02 _ (e0,X) _) ?_))|(apply z1q;(refine z4b (g:=rgc) (a,b) rfl ?_))|(apply z03;(first|refine z1y hm2 (z02 _ (e0,X) _) (bkT (by repeat (first|exact hT|refine HT.upd ?_ hX0 hX1))) ?_| refine z1y hm (z02 _ (e0,X) _) (bkT (by repeat (first|exact hT|refine HT.upd ?_ hX0 hX1))) ?_| refine z0p hn2 (z09 (m:=(e0+1,X)) (z02 _ (e0,X) _) (bkT (by repeat (first|exact hT|refine HT.upd ?_ hX0 hX1)))) ?_| refine z0p hnj (z09 (m:=(e0+1,X)) (z02 _ (e0,X) _) (bkT (by repeat (first|exact hT|refine HT.upd ?_ hX0 hX1)))) ?_))|(apply z0n;(refine z1u (raw':=pbx s ((j1+1:Nat):Int) 0 0) (z02 _ (e0,X) _) ?_))|refine z05 ?_|refine fk (fun _=>?_) (fun _=>?_))
         all_goals try (exfalso;omega)
         all_goals (refine z2g 86 1000 ?_;(repeat rw[z0c]);exact z01 (ih (m,acc++[(a,b)],j2) ⟨hj2s,by simp only[zAa,zAn];omega,fun r hr=>by
          rw[zAt,zAq] at hr
          rcases hr with hr|rfl
          · exact i3 r hr
          · simp only;omega,i4⟩ (by simp only;omega)) rfl rfl)
     · rw[hp2] at hm2
       have hpr:z9a (rst s j)=.err b e:=by
        rw[z9a,hp];simp only
        rw[zAz h45,htj,hp2]
       rw[hpr] at i4
       subst i4
       repeat' (first|(apply z0f;(refine z2q (z02 _ (e0,X) _) ?_))|(apply z03;(first|refine z1y hm2 (z02 _ (e0,X) _) (bkT (by repeat (first|exact hT|refine HT.upd ?_ hX0 hX1))) ?_| refine z1y hm (z02 _ (e0,X) _) (bkT (by repeat (first|exact hT|refine HT.upd ?_ hX0 hX1))) ?_| refine z0p hn2 (z09 (m:=(e0+1,X)) (z02 _ (e0,X) _) (bkT (by repeat (first|exact hT|refine HT.upd ?_ hX0 hX1)))) ?_| refine z0p hnj (z09 (m:=(e0+1,X)) (z02 _ (e0,X) _) (bkT (by repeat (first|exact hT|refine HT.upd ?_ hX0 hX1)))) ?_))|(apply z0n;(refine z1u (raw':=pbx s ((j1+1:Nat):Int) 0 0) (z02 _ (e0,X) _) ?_))|refine z05 ?_|refine fk (fun _=>?_) (fun _=>?_))
       all_goals try (exfalso;omega)
       all_goals ((repeat rw[z0c]);first|exact z00 Tryz.func208 _ (z04 rfl rfl rfl rfl rfl rfl rfl) ⟨rfl,rfl⟩|exact z00 Tryz.func208 _ z0s ⟨rfl,rfl⟩|exact z00 Tryz.func208 _ z13 ⟨rfl,rfl⟩|exact z00 Tryz.func208 _ z1m ⟨rfl,rfl⟩)
     · exact absurd hp2 z9v
   · have hpr:z9a (rst s j)=.ok (a,a) (rst s j1):=by
      rw[z9a,hp];simp only
      rw[zAy h45]
     rw[hpr] at i4
     simp only at i4
     repeat' (first|(apply z0f;(refine z2q (z02 _ (e0,X) _) ?_))|(apply z1q;(refine z4b (g:=rgc) (a,a) rfl ?_))|(apply z03;(first|refine z1y hm (z02 _ (e0,X) _) (bkT (by repeat (first|exact hT|refine HT.upd ?_ hX0 hX1))) ?_| refine z0p hn2 (z09 (m:=(e0+1,X)) (z02 _ (e0,X) _) (bkT (by repeat (first|exact hT|refine HT.upd ?_ hX0 hX1)))) ?_| refine z0p hnj (z09 (m:=(e0+1,X)) (z02 _ (e0,X) _) (bkT (by repeat (first|exact hT|refine HT.upd ?_ hX0 hX1)))) ?_))|refine z05 ?_|refine fk (fun _=>?_) (fun _=>?_))
     all_goals try (exfalso;omega)
     all_goals (refine z2g 86 1000 ?_;(repeat rw[z0c]);exact z01 (ih (m,acc++[(a,a)],j1) ⟨hj1s,by simp only[zAa,zAn];omega,fun r hr=>by
      rw[zAt,zAq] at hr
      rcases hr with hr|rfl
      · exact i3 r hr
      · simp only;omega,i4⟩ (by simp only;omega)) rfl rfl)
 · rw[hp] at hm
   have hpr:z9a (rst s j)=.err a e:=by rw[z9a,hp]
   rw[hpr] at i4
   subst i4
   repeat' (first|(apply z0f;(refine z2q (z02 _ (e0,X) _) ?_))|(apply z03;(first|refine z1y hm (z02 _ (e0,X) _) (bkT (by repeat (first|exact hT|refine HT.upd ?_ hX0 hX1))) ?_| refine z0p hnj (z09 (m:=(e0+1,X)) (z02 _ (e0,X) _) (bkT (by repeat (first|exact hT|refine HT.upd ?_ hX0 hX1)))) ?_))|refine z05 ?_|refine fk (fun _=>?_) (fun _=>?_))
   all_goals try (exfalso;omega)
   all_goals ((repeat rw[z0c]);first|exact z00 Tryz.func208 _ (z04 rfl rfl rfl rfl rfl rfl rfl) ⟨rfl,rfl⟩|exact z00 Tryz.func208 _ z0s ⟨rfl,rfl⟩|exact z00 Tryz.func208 _ z13 ⟨rfl,rfl⟩|exact z00 Tryz.func208 _ z1m ⟨rfl,rfl⟩)
 · exact absurd hp z9v):p:=h
theorem zD3 {p:Prop} (h:p:=by
 clear hD4
 rintro⟨r,d5⟩ ⟨r1,r2,r3,r4⟩ ihr
 simp only at r1 r2 r3 r4 ihr ⊢
 by_cases hr:r<b∧d5[r]!<d5[r-1]!
 · rw[zxp hr.1 hr.2] at r4
   have g0:d5.toList[((r:Nat):Int).toNat]? =some d5[r]!:=z2j (by omega) (by omega)
   have gc:d5.toList[(((r:Nat):Int)-1).toNat]? =some d5[r-1]!:=z2j (by omega) (by omega)
   have s1:d5.toList.set ((r:Nat):Int).toNat d5[r-1]! =(d5.setIfInBounds r d5[r-1]!).toList:=z2r (by omega) _
   have g1:(d5.setIfInBounds r d5[r-1]!).toList[(((r:Nat):Int)-1).toNat]? =some (d5.setIfInBounds r d5[r-1]!)[r-1]!:=z2j (by omega) (by simp;omega)
   have s2:(d5.setIfInBounds r d5[r-1]!).toList.set (((r:Nat):Int)-1).toNat d5[r]! =(Go.Sort.swp d5 r (r-1)).toList:=z2r (by omega) _
   have z1:(d5.setIfInBounds r d5[r-1]!).size=d5.size:=by simp
   have z2:(Go.Sort.swp d5 r (r-1)).size=d5.size:=Go.Sort.swp_size _ _ _
   have hc:=z1f d5[r]! d5[r-1]!
   rw[zAi hr.2] at hc
   have ihr':=ihr (r+1,Go.Sort.swp d5 r (r-1)) ⟨by simp only;omega,by simp only;omega,by simp only;omega,r4⟩ (by simp only;omega)
   simp only at ihr'
   obtain⟨hr1,hr2⟩:=hr
   generalize Go.Sort.swp d5 r (r-1)=d6 at *
   generalize (d5.setIfInBounds r d5[r-1]!)=d7 at *
   clear ihr ih' r4
   repeat' (first|(apply z0g;(first|refine z0m (z0i (u:=z1k d5[r]!) g0) rfl rfl ?_| refine z0m (z0i (u:=z1k d5[r-1]!) gc) rfl rfl ?_))|(apply z08;(refine z0m (z1c rfl (by simp only[zA4,zAe];omega)) rfl rfl ?_))|(apply z0x;(refine z0b (z1g z1j) rfl rfl ?_))|(apply z1l;(refine z0m (z1h z1j) rfl rfl ?_))|(apply z0v;(refine z4u hc ?_))|(apply z18;(first|refine z0l d5[r-1]! (by first|exact rfl|exact⟨_,rfl,rfl,rfl⟩) rfl rfl rfl rfl g0 rfl rfl rfl s1 ?_|refine z0l d5[r]! (by first|exact rfl|exact⟨_,rfl,rfl,rfl⟩) rfl rfl rfl rfl g1 rfl rfl rfl s2 ?_))|refine z05 ?_|refine fk (fun _=>?_) (fun _=>?_))
   all_goals try (exfalso;omega)
   all_goals exact z01 ihr' rfl rfl
 · rw[zdc hr] at r4
   subst r4
   clear ihr
   by_cases hrb:r<b
   · skip
     have g0:d5.toList[((r:Nat):Int).toNat]? =some d5[r]!:=z2j (by omega) (by omega)
     have gc:d5.toList[(((r:Nat):Int)-1).toNat]? =some d5[r-1]!:=z2j (by omega) (by omega)
     have hc:=z1f d5[r]! d5[r-1]!
     rw[zAo (fun g=>hr ⟨hrb,g⟩)] at hc
     repeat' (first|(apply z0g;(first|refine z0m (z0i (u:=z1k d5[r]!) g0) rfl rfl ?_| refine z0m (z0i (u:=z1k d5[r-1]!) gc) rfl rfl ?_))|(apply z08;(refine z0m (z1c rfl (by simp only[zA4,zAe];omega)) rfl rfl ?_))|(apply z0x;(refine z0b (z1g z1j) rfl rfl ?_))|(apply z1l;(refine z0m (z1h z1j) rfl rfl ?_))|(apply z0v;(refine z4u hc ?_))|refine z05 ?_|refine fk (fun _=>?_) (fun _=>?_))
     all_goals try (exfalso;omega)
     all_goals exact z01 ih' rfl rfl
   · have hc:=z1f 0 0
     repeat' (first|refine z05 ?_|refine fk (fun _=>?_) (fun _=>?_))
     all_goals try (exfalso;omega)
     all_goals exact z01 ih' rfl rfl):p:=h
theorem zD4 {p:Prop} (h:p:=by
 refine z0j ?_
 refine z01 (z0z (fun r:Nat=>⟨168,[(0,.ref (0,1000)),(1,I .i64 (a:Nat)),(10,I .i64 (q:Nat)),(11,I .i64 (r:Nat)),(101000,.al (0,1000) (1,1000))],[(1000,rwA d')],upd H (0,1000) .gone⟩) (fun r=>r≤j∧a≤r∧Go.Sort.scanDown (pR d' a) d' q r=jr) (fun r=>r) ?_ j ⟨zAj _,i4,hjr⟩) rfl rfl
 clear hjr
 clear gq
 rintro r ⟨r1,r3,r2⟩ ihr
 by_cases hr:q≤r∧¬ d'[r]!<d'[a]!
 · have gq:d'.toList[((r:Nat):Int).toNat]? =some d'[r]!:=z2j (by omega) (by omega)
   have hc:=z1f d'[r]! d'[a]!
   rw[zAo hr.2] at hc
   rw[zpc (by omega) hr.1 (by simp[Go.Sort.ltInt,hr.2])] at r2
   have ih':=ihr (r-1) ⟨by omega,by omega,r2⟩ (by omega)
   obtain⟨hq1,hq2⟩:=hr
   clear ihr
   repeat' (first|(apply z0g;(first|refine z0m (z0i (u:=z1k d'[r]!) gq) rfl rfl ?_| refine z0m (z0i (u:=z1k d'[a]!) ga) rfl rfl ?_))|(apply z08;(refine z0m (z1c rfl (by simp only[zA4,zAe];omega)) rfl rfl ?_))|(apply z0x;(refine z0b (z1h z1j) rfl rfl ?_))|(apply z0v;(refine z4u hc ?_))|refine z05 ?_|refine fk (fun _=>?_) (fun _=>?_)|(refine z1d (fun hg=>?_) (fun hg=>?_)<;> simp only[hg] <;> (try simp only[zA3,zA5,zA6,zA8] at hg)))
   all_goals try (exfalso;omega)
   all_goals rw[show ((r:Nat):Int)-1=(r-1:Nat) by omega]
   all_goals exact z01 ih' rfl rfl
 clear ihr
 rw[zam (fun g=>hr ⟨g.1,by have:=g.2;simpa[Go.Sort.ltInt] using this⟩)] at r2
 subst r2
 have hex2:q≤r→d'[r]!<d'[a]!:=fun g=>Decidable.byContradiction fun h=>hr ⟨g,h⟩
 by_cases hqr:r<q
 · rw[zAz hqr] at i6
   subst i6
   clear ih
   have g0:d'.toList[((r:Nat):Int).toNat]? =some d'[r]!:=z2j (by omega) (by omega)
   have gc:d'.toList[((a:Nat):Int).toNat]? =some d'[a]!:=z2j (by omega) (by omega)
   have s1:d'.toList.set ((r:Nat):Int).toNat d'[a]! =(d'.setIfInBounds r d'[a]!).toList:=z2r (by omega) _
   have g1:(d'.setIfInBounds r d'[a]!).toList[((a:Nat):Int).toNat]? =some (d'.setIfInBounds r d'[a]!)[a]!:=z2j (by omega) (by simp;omega)
   have s2:(d'.setIfInBounds r d'[a]!).toList.set ((a:Nat):Int).toNat d'[r]! =(Go.Sort.swp d' r a).toList:=z2r (by omega) _
   have z1:(d'.setIfInBounds r d'[a]!).size=d'.size:=by simp
   have z2:(Go.Sort.swp d' r a).size=d'.size:=Go.Sort.swp_size _ _ _
   have hc:=z1f 0 0
   skip
   generalize Go.Sort.swp d' r a=d2 at *
   generalize (d'.setIfInBounds r d'[a]!)=d1 at *
   repeat' (first|(apply z0g;(first|refine z0m (z0i (u:=z1k d'[a]!) ga) rfl rfl ?_| refine z0m (z0i (u:=z1k d'[r]!) g0) rfl rfl ?_))|(apply z08;(refine z0m (z1c rfl (by simp only[zA4,zAe];omega)) rfl rfl ?_))|(apply z18;(first|refine z0l d'[a]! (by first|exact rfl|exact⟨_,rfl,rfl,rfl⟩) rfl rfl rfl rfl g0 rfl rfl rfl s1 ?_|refine z0l d'[r]! (by first|exact rfl|exact⟨_,rfl,rfl,rfl⟩) rfl rfl rfl rfl g1 rfl rfl rfl s2 ?_))|refine z05 ?_|refine fk (fun _=>?_) (fun _=>?_)|(refine z1d (fun hg=>?_) (fun hg=>?_)<;> simp only[hg] <;> (try simp only[zA3,zA5,zA6,zA8] at hg)))
   all_goals try (exfalso;omega)
   all_goals refine z3f (raw:=rwA d2) 1000 0 1000 ?_
   all_goals refine z00 Tryz.func177 _ z0s ⟨rfl,?_⟩
   all_goals simp[z61,z1s]
 · rw[zAy hqr] at i6
   have g0:d'.toList[((q:Nat):Int).toNat]? =some d'[q]!:=z2j (by omega) (by omega)
   have gc:d'.toList[((r:Nat):Int).toNat]? =some d'[r]!:=z2j (by omega) (by omega)
   have s1:d'.toList.set ((q:Nat):Int).toNat d'[r]! =(d'.setIfInBounds q d'[r]!).toList:=z2r (by omega) _
   have g1:(d'.setIfInBounds q d'[r]!).toList[((r:Nat):Int).toNat]? =some (d'.setIfInBounds q d'[r]!)[r]!:=z2j (by omega) (by simp;omega)
   have s2:(d'.setIfInBounds q d'[r]!).toList.set ((r:Nat):Int).toNat d'[q]! =(Go.Sort.swp d' q r).toList:=z2r (by omega) _
   have z1:(d'.setIfInBounds q d'[r]!).size=d'.size:=by simp
   have z2:(Go.Sort.swp d' q r).size=d'.size:=Go.Sort.swp_size _ _ _
   have hc:=z1f d'[r]! d'[a]!
   rw[zAi (hex2 (by omega))] at hc
   have ih':=ih (q+1,r-1,Go.Sort.swp d' q r) ⟨by simp only;omega,by simp only;omega,by simp only;omega,by simp only;omega,by simp only;omega,i6⟩ (by simp only;omega)
   simp only at ih'
   generalize Go.Sort.swp d' q r=d2 at *
   generalize (d'.setIfInBounds q d'[r]!)=d1 at *
   clear ih i6
   repeat' (first|(apply z0g;(first|refine z0m (z0i (u:=z1k d'[a]!) ga) rfl rfl ?_| refine z0m (z0i (u:=z1k d'[q]!) g0) rfl rfl ?_| refine z0m (z0i (u:=z1k d'[r]!) gc) rfl rfl ?_))|(apply z08;(refine z0m (z1c rfl (by simp only[zA4,zAe];omega)) rfl rfl ?_))|(apply z0x;(first|refine z0b (z1h z1j) rfl rfl ?_| refine z0b (z1g z1j) rfl rfl ?_))|(apply z0v;(refine z4u hc ?_))|(apply z18;(first|refine z0l d'[r]! (by first|exact rfl|exact⟨_,rfl,rfl,rfl⟩) rfl rfl rfl rfl g0 rfl rfl rfl s1 ?_|refine z0l d'[q]! (by first|exact rfl|exact⟨_,rfl,rfl,rfl⟩) rfl rfl rfl rfl g1 rfl rfl rfl s2 ?_))|refine z05 ?_|refine fk (fun _=>?_) (fun _=>?_)|(refine z1d (fun hg=>?_) (fun hg=>?_)<;> simp only[hg] <;> (try simp only[zA3,zA5,zA6,zA8] at hg)))
   all_goals try (exfalso;omega)
   all_goals rw[show ((r:Nat):Int)-1=(r-1:Nat) by omega]
   all_goals exact z01 ih' rfl rfl):p:=h
theorem zD5 {p:Prop} (h:p:=by
 refine z0j ?_
 refine z01 (z0z (fun r:Nat=>⟨84,[(0,.ref (0,1000)),(1,I .i64 (a:Nat)),(9,I .i64 (q:Nat)),(10,I .i64 (r:Nat)),(101000,.al (0,1000) (1,1000))],[(1000,rwA d')],upd H (0,1000) .gone⟩) (fun r=>r≤j∧a≤r∧Go.Sort.scanDown (eR d' a) d' q r=jr) (fun r=>r) ?_ j ⟨zAj _,i4,hjr⟩) rfl rfl
 clear hjr
 clear gq
 rintro r ⟨r1,r3,r2⟩ ihr
 by_cases hr:q≤r∧d'[a]!<d'[r]!
 · have gq:d'.toList[((r:Nat):Int).toNat]? =some d'[r]!:=z2j (by omega) (by omega)
   have hc:=z1f d'[a]! d'[r]!
   rw[zAi hr.2] at hc
   rw[zpc (by omega) hr.1 (by simp[Go.Sort.ltInt,hr.2])] at r2
   have ih':=ihr (r-1) ⟨by omega,by omega,r2⟩ (by omega)
   obtain⟨hq1,hq2⟩:=hr
   clear ih ihr
   repeat' (first|(apply z0g;(first|refine z0m (z0i (u:=z1k d'[r]!) gq) rfl rfl ?_| refine z0m (z0i (u:=z1k d'[a]!) ga) rfl rfl ?_))|(apply z08;(refine z0m (z1c rfl (by simp only[zA4,zAe];omega)) rfl rfl ?_))|(apply z0x;(refine z0b (z1h z1j) rfl rfl ?_))|(apply z0v;(refine z4u hc ?_))|refine z05 ?_|refine fk (fun _=>?_) (fun _=>?_)|(refine z1d (fun hg=>?_) (fun hg=>?_)<;> simp only[hg] <;> (try simp only[zA3,zA5,zA6,zA8] at hg)))
   all_goals try (exfalso;omega)
   all_goals rw[show ((r:Nat):Int)-1=(r-1:Nat) by omega]
   all_goals exact z01 ih' rfl rfl
 clear ihr
 rw[zam (fun g=>hr ⟨g.1,by have:=g.2;simpa[Go.Sort.ltInt] using this⟩)] at r2
 subst r2
 have hex2:q≤r→¬ d'[a]!<d'[r]!:=fun g h=>hr ⟨g,h⟩
 by_cases hqr:r<q
 · rw[zAz hqr] at i6
   subst i6
   have hc:=z1f 0 0
   clear ih
   repeat' (first|refine z05 ?_|refine fk (fun _=>?_) (fun _=>?_)|(refine z1d (fun hg=>?_) (fun hg=>?_)<;> simp only[hg] <;> (try simp only[zA3,zA5,zA6,zA8] at hg)))
   all_goals try (exfalso;omega)
   all_goals refine z3f (raw:=rwA d') 1000 0 1000 ?_
   all_goals refine z00 Tryz.func176 _ z13 ⟨rfl,?_⟩
   all_goals simp[z61,z1s]
 · rw[zAy hqr] at i6
   have g0:d'.toList[((q:Nat):Int).toNat]? =some d'[q]!:=z2j (by omega) (by omega)
   have gc:d'.toList[((r:Nat):Int).toNat]? =some d'[r]!:=z2j (by omega) (by omega)
   have s1:d'.toList.set ((q:Nat):Int).toNat d'[r]! =(d'.setIfInBounds q d'[r]!).toList:=z2r (by omega) _
   have g1:(d'.setIfInBounds q d'[r]!).toList[((r:Nat):Int).toNat]? =some (d'.setIfInBounds q d'[r]!)[r]!:=z2j (by omega) (by simp;omega)
   have s2:(d'.setIfInBounds q d'[r]!).toList.set ((r:Nat):Int).toNat d'[q]! =(Go.Sort.swp d' q r).toList:=z2r (by omega) _
   have z1:(d'.setIfInBounds q d'[r]!).size=d'.size:=by simp
   have z2:(Go.Sort.swp d' q r).size=d'.size:=Go.Sort.swp_size _ _ _
   have ih':=ih (q+1,r-1,Go.Sort.swp d' q r) ⟨by simp only;omega,by simp only;omega,by simp only;omega,by simp only;omega,by simp only;omega,i6⟩ (by simp only;omega)
   simp only at ih'
   have hc:=z1f d'[a]! d'[r]!
   rw[zAo (hex2 (by omega))] at hc
   generalize Go.Sort.swp d' q r=d2 at *
   generalize (d'.setIfInBounds q d'[r]!)=d1 at *
   clear ih i6
   repeat' (first|(apply z0g;(first|refine z0m (z0i (u:=z1k d'[a]!) ga) rfl rfl ?_| refine z0m (z0i (u:=z1k d'[q]!) g0) rfl rfl ?_| refine z0m (z0i (u:=z1k d'[r]!) gc) rfl rfl ?_))|(apply z08;(refine z0m (z1c rfl (by simp only[zA4,zAe];omega)) rfl rfl ?_))|(apply z0x;(first|refine z0b (z1h z1j) rfl rfl ?_| refine z0b (z1g z1j) rfl rfl ?_))|(apply z0v;(refine z4u hc ?_))|(apply z18;(first|refine z0l d'[r]! (by first|exact rfl|exact⟨_,rfl,rfl,rfl⟩) rfl rfl rfl rfl g0 rfl rfl rfl s1 ?_|refine z0l d'[q]! (by first|exact rfl|exact⟨_,rfl,rfl,rfl⟩) rfl rfl rfl rfl g1 rfl rfl rfl s2 ?_))|refine z05 ?_|refine fk (fun _=>?_) (fun _=>?_)|(refine z1d (fun hg=>?_) (fun hg=>?_)<;> simp only[hg] <;> (try simp only[zA3,zA5,zA6,zA8] at hg)))
   all_goals try (exfalso;omega)
   all_goals rw[show ((r:Nat):Int)-1=(r-1:Nat) by omega]
   all_goals exact z01 ih' rfl rfl):p:=h
theorem zD6 {p:Prop} (h:p:=by
 intro k k1 ihk
 by_cases hk:k<L.length
 · obtain⟨u,hu⟩:∃ u,L[k]? =some u:=⟨_,zA0 hk⟩
   have hT:((L.take k).map okf).length=k:=by rw[zA4,zAm];omega
   have hall:((L.take k).map okf++L.drop k).length=L.length:=by rw[zAa,hT,List.length_drop];omega
   have hix:((L.take k).map okf++L.drop k)[((k:Nat):Int).toNat]? =some u:=by
    rw[zA9,zAg (by omega),hT,Nat.sub_self,List.getElem?_drop,Nat.add_zero];exact hu
   have hse:((L.take k).map okf++L.drop k).set ((k:Nat):Int).toNat (okf u)=(L.take (k+1)).map okf++L.drop (k+1):=by
    rw[zA9,List.set_append_right _ _ (by omega),hT,Nat.sub_self,drop_cons hu,List.set_cons_zero,z69 hu,List.map_append,zAl];rfl
   have hmap:(((L.take k).map okf++L.drop k).map uqc).length=L.length:=by rw[zA4];exact hall
   have ihk':=ihk (k+1) (by omega) (by omega)
   obtain⟨u1,u2,u3,u4⟩:=u
   by_cases hbad:u1=65533
   · have hok:okf (u1,u2,u3,u4)=(u1,u2,u3,decide (u3=3)):=by simp[okf,hbad]
     rw[hok] at hse
     repeat' (first|(apply z0f;(first|refine z0b (z0i (u:=z1k u1) hix) rfl rfl ?_| refine z0b (z0i (u:=z4g u3) hix) rfl rfl ?_))|(apply z06;(refine z0b (z8z rfl) rfl rfl ?_))|(apply z0n;(refine zb5 ((u1,u2,u3,decide (u3=3)):Uq) hix hse ?_))|refine z05 ?_|refine fk (fun _=>?_) (fun _=>?_))
     all_goals try (exfalso;omega)
     all_goals exact z01 ihk' rfl rfl
   · have hok:okf (u1,u2,u3,u4)=(u1,u2,u3,true):=by simp[okf,hbad]
     rw[hok] at hse
     repeat' (first|(apply z0f;(first|refine z0b (z0i (u:=z1k u1) hix) rfl rfl ?_| refine z0b (z0i (u:=z4g u3) hix) rfl rfl ?_))|(apply z06;(refine z0b (z8z rfl) rfl rfl ?_))|(apply z0n;(refine zb5 ((u1,u2,u3,true):Uq) hix hse ?_))|refine z05 ?_|refine fk (fun _=>?_) (fun _=>?_))
     all_goals try (exfalso;omega)
     all_goals exact z01 ihk' rfl rfl
 · obtain rfl:k=L.length:=by omega
   rw[List.take_length,zAs,List.append_nil]
   repeat' (first|refine z05 ?_|refine fk (fun _=>?_) (fun _=>?_))
   all_goals try (exfalso;omega)
   refine z10 1000 rfl ?_
   exact z00 Tryz.func49 _ z13 ⟨rfl,rfl⟩):p:=h
theorem zD7 {p:Prop} (h:p:=by
 all_goals try (exfalso;omega)
 all_goals ((repeat rw[z0c]);first|exact z00 Tryz.func196 _ (z04 rfl rfl rfl rfl rfl rfl rfl) ⟨rfl,rfl⟩|exact z00 Tryz.func196 _ z0s ⟨rfl,rfl⟩|exact z00 Tryz.func196 _ z13 ⟨rfl,rfl⟩|exact z00 Tryz.func196 _ z1m ⟨rfl,rfl⟩)):p:=h
theorem zD8 {p:Prop} (h:p:=by
 simp only[zbu,Rx.op,Rx.mn,Rx.mx,Rx.ks,List.map_cons,List.map_nil,z34] at ih'
 repeat' (first|(apply z0f;(refine z2q (z02 _ (e0,X) _) ?_))|(apply z03;(refine z0p hn (z09 (m:=(e0+1,X)) (z02 _ (e0,X) _) (bkT (by repeat (first|exact hT|refine HT.upd ?_ hX0 hX1)))) ?_))|(apply z0n;(refine z1u (raw':=pbx s ((j+1:Nat):Int) 0 0) (z02 _ (e0,X) _) ?_))|refine z05 ?_|fail)
 all_goals try (exfalso;omega)
 all_goals ((repeat rw[z0c]);exact z01 ih' rfl rfl)):p:=h
theorem zD9 {p:Prop} (h:p:=by
 rintro k ⟨i1,i2⟩ ih
 by_cases hlt:k<W.length
 · have hw:=z3n hlt
   by_cases hc:ltS (wd W k) x=true
   · have ih':=ih (k+1) ⟨by omega,fun i hi=>by
      by_cases e:i=k
      · rw[e];exact hc
      · exact i2 i (by omega)⟩ (by omega)
     have hc':Op.bytesLess (wd W k).toList x.toList=true:=by rw[zee];exact hc
     repeat' (first|(apply z06;(refine z0b (z1a (ys:=W.map stc) rfl (idx hw)) rfl rfl ?_))|(apply z08;(refine z0m (z1a (ys:=W.map stc) rfl (idx hw)) rfl rfl ?_))|refine z05 ?_|refine fk (fun _=>?_) (fun _=>?_)|(refine z1d (fun hg=>?_) (fun hg=>?_)<;> simp only[hg] <;> (try simp only[zA3,zA5,zA6,zA8] at hg)))
     all_goals try (exfalso;first|omega|(simp[hc'] at *;done))
     all_goals exact z01 ih' rfl rfl
   · have hlo:loS W x=k:=zt6 h x (by omega) i2 (fun _=>by simpa using hc)
     have hc':Op.bytesLess (wd W k).toList x.toList=false:=by rw[zee];simpa using hc
     have hf:zju W x=decide (wd W k=x):=by rw[zju,hlo];simp[hlt]
     rw[hf,hlo]
     clear ih
     repeat' (first|(apply z06;(refine z0b (z1a (ys:=W.map stc) rfl (idx hw)) rfl rfl ?_))|(apply z08;(refine z0m (z1a (ys:=W.map stc) rfl (idx hw)) rfl rfl ?_))|refine z05 ?_|refine fk (fun _=>?_) (fun _=>?_)|(refine z1d (fun hg=>?_) (fun hg=>?_)<;> simp only[hg] <;> (try simp only[zA3,zA5,zA6,zA8] at hg)))
     all_goals try (exfalso;first|omega|(simp[hc'] at *;done))
     all_goals exact z00 Tryz.func81 _ z0s ⟨rfl,rfl⟩
 · obtain rfl:k=W.length:=by omega
   have hlo:loS W x=W.length:=zt6 h x (by omega) i2 (fun h=>absurd h (Nat.lt_irrefl _))
   have hf:zju W x=false:=by rw[zju,hlo];simp
   rw[hf,hlo]
   clear ih
   repeat' (first|refine z05 ?_|refine fk (fun _=>?_) (fun _=>?_)|(refine z1d (fun hg=>?_) (fun hg=>?_)<;> simp only[hg] <;> (try simp only[zA3,zA5,zA6,zA8] at hg)))
   all_goals try (exfalso;first|omega|(simp at *;done))
   all_goals exact z00 Tryz.func81 _ z0s ⟨rfl,rfl⟩):p:=h
theorem zD10 {p:Prop} (h:p:=by
 all_goals try (exfalso;omega)
 all_goals exact z01 ih' rfl rfl):p:=h
theorem zD11 {p:Prop} (h:p:=by
 repeat' (first|(apply z0f;(refine z2q hX ?_))|(apply z03;(first|refine z1y hch hX (bkT (by repeat (first|exact hT|refine HT.upd ?_ hX0 hX1))) ?_| refine z2y hf rfl hX (by decide) ?_|refine z0p hn (z09 (m:=(e0+1,X)) hX (bkT (by repeat (first|exact hT|refine HT.upd ?_ hX0 hX1)))) ?_| refine z1i hcr ?_))|refine z05 ?_|refine fk (fun _=>?_) (fun _=>?_))
 all_goals try (exfalso;omega)
 all_goals ((repeat rw[z0c]);first|exact z00 Tryz.func214 _ (z04 rfl rfl rfl rfl rfl rfl rfl) ⟨rfl,rfl⟩|exact z00 Tryz.func214 _ z0s ⟨rfl,rfl⟩|exact z00 Tryz.func214 _ z13 ⟨rfl,rfl⟩|exact z00 Tryz.func214 _ z1m ⟨rfl,rfl⟩)):p:=h
theorem zD12 {p:Prop} (h:p:=by
 rw[zAz hqr] at hR
 have g0:d'.toList[((r:Nat):Int).toNat]? =some d'[r]!:=z2j (by omega) (by omega)
 have gc:d'.toList[((a:Nat):Int).toNat]? =some d'[a]!:=z2j (by omega) (by omega)
 have s1:d'.toList.set ((r:Nat):Int).toNat d'[a]! =(d'.setIfInBounds r d'[a]!).toList:=z2r (by omega) _
 have g1:(d'.setIfInBounds r d'[a]!).toList[((a:Nat):Int).toNat]? =some (d'.setIfInBounds r d'[a]!)[a]!:=z2j (by omega) (by simp;omega)
 have s2:(d'.setIfInBounds r d'[a]!).toList.set ((a:Nat):Int).toNat d'[r]! =(Go.Sort.swp d' r a).toList:=z2r (by omega) _
 have z1:(d'.setIfInBounds r d'[a]!).size=d'.size:=by simp
 have z2:(Go.Sort.swp d' r a).size=d'.size:=Go.Sort.swp_size _ _ _
 have hc:=z1f 0 0
 subst hR
 generalize Go.Sort.swp d' r a=d2 at *
 generalize (d'.setIfInBounds r d'[a]!)=d1 at *
 repeat' (first|(apply z0g;(first|refine z0m (z0i (u:=z1k d'[a]!) ga) rfl rfl ?_| refine z0m (z0i (u:=z1k d'[r]!) g0) rfl rfl ?_))|(apply z08;(refine z0m (z1c rfl (by simp only[zA4,zAe];omega)) rfl rfl ?_))|(apply z18;(first|refine z0l d'[a]! (by first|exact rfl|exact⟨_,rfl,rfl,rfl⟩) rfl rfl rfl rfl g0 rfl rfl rfl s1 ?_|refine z0l d'[r]! (by first|exact rfl|exact⟨_,rfl,rfl,rfl⟩) rfl rfl rfl rfl g1 rfl rfl rfl s2 ?_))|refine z05 ?_|refine fk (fun _=>?_) (fun _=>?_)|(refine z1d (fun hg=>?_) (fun hg=>?_)<;> simp only[hg] <;> (try simp only[zA3,zA5,zA6,zA8] at hg)))
 all_goals try (exfalso;omega)
 all_goals refine z3f (raw:=rwA d2) 1000 0 1000 ?_
 all_goals refine z00 Tryz.func177 _ z0s ⟨rfl,?_⟩
 all_goals simp[z61,z1s]):p:=h
theorem zD13 {p:Prop} (h:p:=by
 skip
 repeat' (first|(apply z0x;(first|refine z0b (z1g z1j) rfl rfl ?_| refine z0b (z1h z1j) rfl rfl ?_| refine z0b (z71 z1j) rfl rfl ?_| refine z0b (zbt (by omega) (by decide) z1j) rfl rfl ?_))|(apply z03;(first|refine z2u e rfl rfl rfl (by decide) ?_|refine z2u e3 rfl rfl rfl (by decide) ?_|refine z2u e2 rfl rfl rfl (by decide) ?_|refine z2u e1 rfl rfl rfl (by decide) ?_))|(apply z1p;((refine z0e z3r ?_;refine zgs 9 900 rfl rfl ?_)))|refine z05 ?_|refine fk (fun _=>?_) (fun _=>?_))
 all_goals try (exfalso;omega)
 all_goals refine z3f (raw:=rwA d) 1000 0 1000 ?_
 all_goals exact z00 Tryz.func172 _ z0s ⟨rfl,zhw hX⟩):p:=h
theorem zD14 {p:Prop} (h:p:=by
 have he:Ext w own { w with heap:=w.heap.setIfInBounds r (.map cur'.toArray clock') } own:=by
  refine⟨rfl,rfl,rfl,by simp,fun b hb hno=>?_,fun _ _ h=>h⟩
  have:b≠r:=fun e=>hno (e▸ho)
  simp[Ne.symm this]
 have hbr:BR β { w with heap:=w.heap.setIfInBounds r (.map cur'.toArray clock') } own (β (0,ms)) (atF (0,ms) (.mp ((z99 q a v).map fun p=>(g p.1,p.2)))):=by
  rw[hβ]
  refine .mp r clock' _ cur' ho (by simp[hlt]) (by simpa using hl') (fun j x m hx hm=>?_) hbn' hc'
  obtain⟨y,hy,rfl⟩:=znp hx
  obtain⟨e1,e2,e3⟩:=hd' j y m hy hm
  exact⟨e1,e2,e3.mono he⟩
 have hheap:=hr.heap.change (raw:=.mp ((z99 q a v).map fun p=>(g p.1,p.2))) hlook rfl he (by simp) (fun g' hg'=>by
  have:g'≠r:=fun e=>hg' (by rw[hβ,e];rfl)
  simp[Ne.symm this]) hbr
 refine⟨.skip,undef,_,β,own,?_,.inr ⟨rfl,rfl⟩,?_,he,rfl⟩
 · cases insert <;> simp only[execOp,ex',ey,hzv,Bool.false_eq_true,if_false,if_true] <;> simp[hrun]
 · refine⟨?_,hr.defers,fun t q hq=>?_,?_⟩
   · rw[(z3z s (0,ms) _).2.1];exact hr.size
   · rw[(z3z s (0,ms) _).1] at hq;exact(hr.tm t q hq).mono he
   · rw[z2o];exact hheap):p:=h
theorem zD15 {p:Prop} (h:p:=by
 repeat' (first|(apply z0f;(first|refine z2q (z02 _ (e0,X) _) ?_| refine z2q hX ?_))|(apply z0g;(refine z52 (z02 _ (e0,X) _) ?_))|(apply z0x;(refine z0b (z1h (zak (by omega) (by omega))) rfl rfl ?_))|(apply z03;(first|refine z2y hf2 rfl (z02 _ (e0,X) _) (by decide) ?_|refine z0p hn1 (z09 (m:=(e0+1,X)) (z02 _ (e0,X) _) (bkT (by repeat (first|exact hT|refine HT.upd ?_ hX0 hX1)))) ?_| refine z0p hn (z09 (m:=(e0+1,X)) hX (bkT (by repeat (first|exact hT|refine HT.upd ?_ hX0 hX1)))) ?_| refine z1i hd ?_| refine z1i hd1 ?_))|(apply z0n;(refine z1u (raw':=pbx s ((i+1:Nat):Int) 0 0) hX ?_))|refine z05 ?_|refine fk (fun _=>?_) (fun _=>?_)|(refine z1d (fun hg=>?_) (fun hg=>?_)<;> simp only[hg] <;> (try simp only[zA3,zA5,zA6,zA8] at hg)))
 all_goals try (exfalso;omega)
 all_goals ((repeat rw[z0c]);refine z4v wkP ?_;first|exact z00 Tryz.func211 _ (z04 rfl rfl rfl rfl rfl rfl rfl) ⟨rfl,rfl⟩|exact z00 Tryz.func211 _ z0s ⟨rfl,rfl⟩|exact z00 Tryz.func211 _ z13 ⟨rfl,rfl⟩|exact z00 Tryz.func211 _ z1m ⟨rfl,rfl⟩)):p:=h
theorem zD16 {p:Prop} (h:p:=by
 repeat' (first|(apply z0f;(first|refine z2q (z02 _ (e0,X) _) ?_| refine z2q hX ?_))|(apply z0g;(refine z52 (z02 _ (e0,X) _) ?_))|(apply z0x;(refine z0b (z1h (zak (by omega) (by omega))) rfl rfl ?_))|(apply z03;(first|refine z2y hf2 rfl (z02 _ (e0,X) _) (by decide) ?_|refine z0p hn1 (z09 (m:=(e0+1,X)) (z02 _ (e0,X) _) (bkT (by repeat (first|exact hT|refine HT.upd ?_ hX0 hX1)))) ?_| refine z0p hn (z09 (m:=(e0+1,X)) hX (bkT (by repeat (first|exact hT|refine HT.upd ?_ hX0 hX1)))) ?_| refine z1i hd ?_| refine z1i hd1 ?_))|(apply z0n;(refine z1u (raw':=pbx s ((i+1:Nat):Int) 0 0) hX ?_))|refine z05 ?_|refine fk (fun _=>?_) (fun _=>?_)|(refine z1d (fun hg=>?_) (fun hg=>?_)<;> simp only[hg] <;> (try simp only[zA3,zA5,zA6,zA8] at hg)))
 all_goals try (exfalso;omega)
 all_goals ((repeat rw[z0c]);first|exact z00 Tryz.func211 _ (z04 rfl rfl rfl rfl rfl rfl rfl) ⟨rfl,rfl⟩|exact z00 Tryz.func211 _ z0s ⟨rfl,rfl⟩|exact z00 Tryz.func211 _ z13 ⟨rfl,rfl⟩|exact z00 Tryz.func211 _ z1m ⟨rfl,rfl⟩)):p:=h
theorem zD17 {p:Prop} (h:p:=by
 generalize hv:a.tmps.getD t undef=v at hp
 cases hp with
 | ptr _ _ g' hg' =>
  rw[hβ] at hg';simp at hg';subst hg'
  have hlen:cur.length=ti.size:=by rw[← hl,zA4,hs]
  have:=z1b (P:=P) hty g 0 cur w hlen (fun j v hj=>by
   rw[Nat.zero_add,cell_of_row w g j _ tt (0,0) hg];simpa using hj)
  rcases this with h'|h'
  · have hv2:a.tmps[t]?.getD undef=.pointer (some ⟨g,0,none⟩):=by rw[← Array.getD_eq_getD_getElem?];exact hv
    simp[results,h,hv2,asAddr,h',ha]
  · rw[ha] at h';cases h'.1):p:=h
theorem zD18 {p:Prop} (h:p:=by
 have z1:(d'.setIfInBounds i d'[y]!).size=d'.size:=by simp
 generalize Go.Sort.swp d' i y=d2 at *
 generalize (d'.setIfInBounds i d'[y]!)=d1 at *
 repeat' (first|(apply z0g;(first|refine z0m (z0i (u:=z1k d'[i]!) g0) rfl rfl ?_| refine z0m (z0i (u:=z1k d'[y]!) gc) rfl rfl ?_))|(apply z08;(refine z0m (z1c rfl (by simp only[zA4,zAe];omega)) rfl rfl ?_))|(apply z0x;(first|refine z0b (zbt (by omega) (by decide) z1j) rfl rfl ?_| refine z0b (z71 z1j) rfl rfl ?_| refine z0b z4n rfl rfl ?_| refine z0b (z1h (zps (by omega) (by omega))) rfl rfl ?_| refine z0b (z1h z1j) rfl rfl ?_| refine z0b (z1g z1j) rfl rfl ?_))|(apply z1l;(refine z0m (z1g z1j) rfl rfl ?_))|(apply z03;(refine z3y hx ?_))|(apply z18;(first|refine z0l d'[y]! (by first|exact rfl|exact⟨_,rfl,rfl,rfl⟩) rfl rfl rfl rfl g0 rfl rfl rfl s1 ?_|refine z0l d'[i]! (by first|exact rfl|exact⟨_,rfl,rfl,rfl⟩) rfl rfl rfl rfl g1 rfl rfl rfl s2 ?_))|(apply z4w;(refine z0b (z8t rfl rfl z1j) rfl rfl ?_))|refine z05 ?_|refine fk (fun _=>?_) (fun _=>?_))
 all_goals exact zD10):p:=h
theorem zD19 {p:Prop} (h:p:=by
 all_goals try (exfalso;omega)
 all_goals refine z2t 601 603 rfl (z07 (z07 (z07 hG1 (by simp)) (by simp)) (by simp)) (Or.inl rfl) rfl (Quiet.upd (Quiet.upd (Quiet.upd hQ1 rfl) rfl) rfl) ?_
 all_goals refine z2t 602 604 rfl (z07 (z07 (z07 (z07 hG2 (by simp)) (by simp)) (by simp)) (by simp)) (Or.inr rfl) rfl (Quiet.upd (Quiet.upd (Quiet.upd (Quiet.upd hQ2 rfl) rfl) rfl) rfl) ?_
 all_goals refine z3f (raw:=bbx 603 604) 600 0 600 ?_
 all_goals refine z00 Tryz.func132 _ (z36 rfl rfl rfl rfl rfl rfl) ⟨rfl,rfl⟩):p:=h
theorem zD20 {p:Prop} (h:p:=by
 all_goals try (exfalso;omega)
 all_goals ((repeat rw[z0c]);first|exact z00 Tryz.func197 _ (z04 rfl rfl rfl rfl rfl rfl rfl) ⟨rfl,rfl⟩|exact z00 Tryz.func197 _ z0s ⟨rfl,rfl⟩|exact z00 Tryz.func197 _ z13 ⟨rfl,rfl⟩|exact z00 Tryz.func197 _ z1m ⟨rfl,rfl⟩)):p:=h
theorem zD21 {p:Prop} (h:p:=by
 all_goals try (exfalso;omega)
 all_goals ((repeat rw[z0c]);first|exact z00 Tryz.func164 _ (z04 rfl rfl rfl rfl rfl rfl rfl) ⟨rfl,rfl⟩|exact z00 Tryz.func164 _ z0s ⟨rfl,rfl⟩|exact z00 Tryz.func164 _ z13 ⟨rfl,rfl⟩|exact z00 Tryz.func164 _ z1m ⟨rfl,rfl⟩)):p:=h
theorem zD22 {p:Prop} (h:p:=by
 all_goals try (exfalso;omega)
 all_goals ((repeat rw[z0c]);first|exact z00 Tryz.func87 _ (z04 rfl rfl rfl rfl rfl rfl rfl) ⟨rfl,rfl⟩|exact z00 Tryz.func87 _ z0s ⟨rfl,rfl⟩|exact z00 Tryz.func87 _ z13 ⟨rfl,rfl⟩|exact z00 Tryz.func87 _ z1m ⟨rfl,rfl⟩)):p:=h
theorem zD23 {p:Prop} (h:p:=by
 all_goals try (exfalso;omega)
 all_goals refine z2t 601 603 rfl (z07 (z07 (z07 hG1 (by simp)) (by simp)) (by simp)) (Or.inl rfl) rfl (Quiet.upd (Quiet.upd (Quiet.upd hQ1 rfl) rfl) rfl) ?_
 all_goals refine z2t 602 604 rfl (z07 (z07 (z07 (z07 hG2 (by simp)) (by simp)) (by simp)) (by simp)) (Or.inr rfl) rfl (Quiet.upd (Quiet.upd (Quiet.upd (Quiet.upd hQ2 rfl) rfl) rfl) rfl) ?_
 all_goals refine z3f (raw:=bbx 603 604) 600 0 600 ?_
 all_goals refine z00 Tryz.func92 _ (z36 rfl rfl rfl rfl rfl rfl) ⟨rfl,rfl⟩):p:=h
theorem zD24 {p:Prop} (h:p:=by
 have gq:d'.toList[((r:Nat):Int).toNat]? =some d'[r]!:=z2j (by omega) (by omega)
 have hc:=z1f d'[r]! d'[a]!
 rw[zAo hr.2] at hc
 rw[zpc (by omega) hr.1 (by simp[Go.Sort.ltInt,hr.2])] at r2
 have ih':=ihr (r-1) ⟨by omega,by omega,r2⟩ (by omega)
 obtain⟨hq1,hq2⟩:=hr
 clear ihr
 repeat' (first|(apply z0g;(first|refine z0m (z0i (u:=z1k d'[r]!) gq) rfl rfl ?_| refine z0m (z0i (u:=z1k d'[a]!) ga) rfl rfl ?_))|(apply z08;(refine z0m (z1c rfl (by simp only[zA4,zAe];omega)) rfl rfl ?_))|(apply z0x;(refine z0b (z1h z1j) rfl rfl ?_))|(apply z0v;(refine z4u hc ?_))|refine z05 ?_|refine fk (fun _=>?_) (fun _=>?_)|(refine z1d (fun hg=>?_) (fun hg=>?_)<;> simp only[hg] <;> (try simp only[zA3,zA5,zA6,zA8] at hg)))
 all_goals try (exfalso;omega)
 all_goals rw[show ((r:Nat):Int)-1=(r-1:Nat) by omega]
 all_goals exact z01 ih' rfl rfl):p:=h
theorem zD25 {p:Prop} (h:p:=by
 repeat' (first|(apply z0g;(first|refine z0m (z0i (u:=z1k d'[q]!) gq) rfl rfl ?_| refine z0m (z0i (u:=z1k d'[a]!) ga) rfl rfl ?_))|(apply z08;(refine z0m (z1c rfl (by simp only[zA4,zAe];omega)) rfl rfl ?_))|(apply z0x;(refine z0b (z1g z1j) rfl rfl ?_))|(apply z0v;(refine z4u hc ?_))|refine z05 ?_|(refine z1d (fun hg=>?_) (fun hg=>?_)<;> simp only[hg] <;> (try simp only[zA3,zA5,zA6,zA8] at hg)))
 all_goals exact zD10):p:=h
theorem zD26 {p:Prop} (h:p:=by
 rw[← i2]
 clear ih i2
 repeat' (first|(apply z0g;(first|refine z0m (z0i (u:=z1k d'[F+(2*r+1)]!) ga) rfl rfl ?_| refine z0m (z0i (u:=z1k d'[F+(2*r+2)]!) gb) rfl rfl ?_| refine z0m (z0i (u:=z1k d'[F+r]!) g0) rfl rfl ?_))|(apply z08;(refine z0m (z1c rfl (by simp only[zA4,zAe];omega)) rfl rfl ?_))|(apply z0x;(first|refine z0b (z71 z1j) rfl rfl ?_| refine z0b (z1g z1j) rfl rfl ?_))|(apply z1l;(refine z0m (z1g z1j) rfl rfl ?_))|(apply z0v;(first|refine z4u hc1 ?_| refine z4u hc0 ?_))|refine z05 ?_|refine fk (fun _=>?_) (fun _=>?_)|(refine z1d (fun hg=>?_) (fun hg=>?_)<;> simp only[hg] <;> (try simp only[zA3,zA5,zA6,zA8] at hg)))
 all_goals try (exfalso;omega)
 all_goals refine z3f (raw:=rwA d') 1000 0 1000 ?_
 all_goals refine z00 Tryz.func199 _ (z2p rfl) ⟨rfl,?_⟩
 all_goals simp[z61,z1s]):p:=h
theorem zD27 {p:Prop} (h:p:=by
 refine⟨fun m c hm=>?_,fun m1 m2 c1 c2 e1 e2 l1 l2 hn g hg'=>?_,h2.lt⟩
 · cases hc:c.live with
   | false=>cases c <;> first|(simp[Blk.live] at hc;done)|exact .gone _
   | true =>
    rcases key m c hm hc with ⟨rfl,rfl⟩|⟨_,_,h3⟩
    · rw[hsame];exact h2.blk _ _ hrow
    · exact h2.blk m c h3
 · rcases key m1 c1 e1 l1 with ⟨rfl,rfl⟩|⟨n1,n1',h3⟩
   · rcases key m2 c2 e2 l2 with ⟨rfl,rfl⟩|⟨n2,n2',h4⟩
     · exact absurd rfl hn
     · rw[hsame] at hg'
       exact h2.inj (0,y) m2 _ c2 hrow h4 l1 l2 (Ne.symm n2') g hg'
   · rcases key m2 c2 e2 l2 with ⟨rfl,rfl⟩|⟨n2,n2',h4⟩
     · rw[hsame]
       exact h2.inj m1 (0,y) c1 _ h3 hrow l1 l2 n1' g hg'
     · exact h2.inj m1 m2 c1 c2 h3 h4 l1 l2 hn g hg'):p:=h
theorem zD28 {p:Prop} (h:p:=by
 all_goals try (exfalso;first|omega|(simp at *;done))
 all_goals refine z3k (raw:=.glob 1 τ.o0) 700 0 700 (z07 (z0u _ (0,700) _) (by simp)) ?_
 all_goals refine z3k (raw:=.glob 2 τ.o1) 701 0 701 (z07 (z0u _ (0,701) _) (by simp)) ?_
 all_goals exact z00 Tryz.func4 _ z13 ⟨rfl,z3e hX0 hX1⟩):p:=h
theorem zD29 {p:Prop} (h:p:=by
 rw[zAy ho] at k2
 simp only[zc1,zAu,zA7,zA3,not_or,not_and] at ho
 have ihk':=ihk (k+2) ⟨by omega,by rw[hpk];exact k2,fun y hy=>by rw[hpk] at hy;cases hy;omega⟩ (by omega)
 repeat' (first|(apply z06;(refine z0b (z1a (ys:=l.map z8m) rfl (idx hx)) rfl rfl ?_))|(apply z08;(refine z0m (z1a (ys:=l.map z8m) rfl (zel hyi)) rfl rfl ?_))|(apply z1l;(refine z0m (z1g (zak (by omega) (by omega))) rfl rfl ?_))|refine z05 ?_|refine fk (fun _=>?_) (fun _=>?_)|(refine z1d (fun hg=>?_) (fun hg=>?_)<;> simp only[hg] <;> (try simp only[zA3,zA5,zA6,zA8] at hg)))
 all_goals try (exfalso;omega)
 all_goals exact z01 ihk' rfl rfl):p:=h
theorem zD30 {p:Prop} (h:p:=by
 rw[znj] at ho
 rcases hok with h92|hcf
 · rw[h92] at hn
   repeat' (first|(apply z03;(first|refine z1y hch hX (bkT (by repeat (first|exact hT|refine HT.upd ?_ hX0 hX1))) ?_| refine z0p hn (z09 (m:=(e0+1,X)) hX (bkT (by repeat (first|exact hT|refine HT.upd ?_ hX0 hX1)))) ?_| refine z1i ho ?_))|refine z05 ?_|fail)
   all_goals exact zD7
 · rw[hcf] at hcr
   repeat' (first|(apply z0f;(refine z2q hX ?_))|(apply z03;(first|refine z1y hch hX (bkT (by repeat (first|exact hT|refine HT.upd ?_ hX0 hX1))) ?_| refine z0p hn (z09 (m:=(e0+1,X)) hX (bkT (by repeat (first|exact hT|refine HT.upd ?_ hX0 hX1)))) ?_| refine z1i hcr ?_| refine z1i ho ?_))|refine z05 ?_|refine fk (fun _=>?_) (fun _=>?_))
   all_goals exact zD7):p:=h
theorem zD31 {p:Prop} (h:p:=by
 have hX:H 0 1000=some (rwA d):=hH ((0,1000),rwA d) (by simp)
 refine z0a Tryz.func172 (by kernel_rfl) rfl (by simp) ?_
 dsimp only[Tryz.f172]
 refine z1n 1000 0 1000 hX rfl rfl ?_
 repeat' (first|(apply z0x;(first|refine z0b (z1g z1j) rfl rfl ?_| refine z0b (z1h z1j) rfl rfl ?_| refine z0b (z71 z1j) rfl rfl ?_| refine z0b (zbt (by omega) (by decide) z1j) rfl rfl ?_))|(apply z03;(refine z2u e rfl rfl rfl (by decide) ?_))|(apply z1p;((refine z0e z3r ?_;refine zgs 9 900 rfl rfl ?_)))|refine z05 ?_|refine fk (fun _=>?_) (fun _=>?_))
 all_goals try (exfalso;omega)
 all_goals refine z3f (raw:=rwA d) 1000 0 1000 ?_
 all_goals exact z00 Tryz.func172 _ z0s ⟨rfl,zhw hX⟩):p:=h
theorem zD32 {p:Prop} (h:p:=by
 have hdone:=h rest hrest β' own' _ w' hrep' b hb hk (by rw[hout];exact hn) cs
 rw[hout] at hdone
 refine(hdone.ext hext).of_steps (.one (step_lone_go ?_))
 have hgo:=stepGR_op (P:=P) (b:=b) (a:={ a with defers:=b.defers }) (k:=k) (cs:=cs) (w:=w) (rest:=rest) ho hw
 have hfin:∀ v,(am b a (.inRegion all (i::rest)::k)).finish v=am b (a.put o.dst v) (.inRegion all rest::k):=by
  intro v;rw[z68,ho];rfl
 have hsem:=z6g (ro:=b.roundOf) hrun (by rcases hnx with rfl|⟨rfl,_⟩ <;> simp)
 rw[← z88 b a] at hsem
 rw[show am b a (.inRegion all (i::rest)::k)=b.atR { a with defers:=b.defers } (.inRegion all (i::rest)::k) from rfl] at hfin ⊢
 rw[hgo,← hfin]
 rcases hnx with rfl|⟨rfl,rfl⟩ <;> simp[stepG.apply,hsem]):p:=h
theorem zD33 {p:Prop} (h:p:=by
 rw[← hto] at c2
 repeat' (first|(apply z4z;(refine z0m (z65 rfl (by omega) (by omega)) rfl rfl ?_))|(apply z03;(refine z8o hst1 rfl (z09 (m:=(0,20)) rfl z4y) (by decide) ?_))|(apply z4w;(refine z0b (zec hes0 rfl rfl) rfl rfl ?_))|refine z05 ?_|refine fk (fun _=>?_) (fun _=>?_)|(apply z16;(refine z1o hlt2 rfl rfl (by decide) ?_))|(refine z1d (fun hg=>?_) (fun hg=>?_)<;> simp only[hg] <;> (try simp only[zA3,zA5,zA6,zA8] at hg)))
 all_goals try (exfalso;omega)
 all_goals try (exfalso;simp_all;done)
 all_goals exact z01 ih2 rfl rfl):p:=h
theorem zD34 {p:Prop} (h:p:=by
 subst hj
 rw[zmg] at i4
 have ih':=ih (j+1+1,pre++[(b,pr+1+1)]) ⟨by simp only;omega,by simp;omega,.inr ⟨j+1,pre,b,pr+1,rfl,hk,rfl,by omega,by omega,i4⟩⟩ (by simp only;omega)
 simp only at ih'
 repeat' (first|(apply z0f;(refine z0b (z0i zaw) rfl rfl ?_))|(apply z06;(first|refine z0b (z1a (ys:=l.map ic) rfl (idx hk)) rfl rfl ?_| refine z0b (z1a (ys:=l.map ic) rfl (zel j4)) rfl rfl ?_| refine z0b (z1c rfl (by rw[zA4];omega)) rfl rfl ?_))|(apply z0n;(refine zb5 (b,pr+1+1) zaw zrt ?_))|refine z05 ?_|refine fk (fun _=>?_) (fun _=>?_))
 all_goals exact zD10):p:=h
theorem zD35 {p:Prop} (h:p:=by
 simp only[zbu,Rx.op,Rx.mn,Rx.mx,Rx.ks,List.map_cons,List.map_nil,z34] at ih'
 repeat' (first|(apply z0f;(refine z2q (z02 _ (e0,X) _) ?_))|(apply z03;(first|refine z1y hb (z02 _ (e0,X) _) (bkT (by repeat (first|exact hT|refine HT.upd ?_ hX0 hX1))) ?_| refine z0p hn (z09 (m:=(e0+1,X)) (z02 _ (e0,X) _) (bkT (by repeat (first|exact hT|refine HT.upd ?_ hX0 hX1)))) ?_))|(apply z0n;(first|refine z1u (raw':=pbx s ((k+1:Nat):Int) 0 0) (z02 _ (e0,X) _) ?_| refine z1u (raw':=pbx s ((j+1:Nat):Int) 0 0) (z02 _ (e0,X) _) ?_))|refine z05 ?_|fail)
 all_goals try (exfalso;omega)
 all_goals ((repeat rw[z0c]);exact z01 ih' rfl rfl)):p:=h
theorem zD36 {p:Prop} (h:p:=by
 intro hp h1 q1
 have qq:∀ x,z2m (0,x) hp=true→z6v (push hp H) (0,x):=fun x q e t b he hb=>by
  obtain rfl:e=0:=by simp at he;omega
  exact z3c q hb
 have:=zhg s (push hp H) h1 (qq 901 q1)
 rw[z9o] at this
 exact this):p:=h
theorem zD37 {p:Prop} (h:p:=by
 intro j x m hx hm
 rw[z7u q a v h1] at hx
 by_cases hj:j<q.length
 · rw[zAb hj] at hx
   rw[zAb (by omega)] at hm
   exact hd j (g x.1,x.2) m (by rw[zAd,hx];rfl) hm
 · have hj2:=(zA1.1 hx).1
   simp at hj2
   obtain rfl:j=q.length:=by omega
   rw[zAg (zAj _)] at hx
   rw[zAg (by omega),hlen] at hm
   simp at hx hm;subst hx;subst hm
   exact⟨rfl,hz1.1,hz1.2⟩):p:=h
theorem zD38 {p:Prop} (h:p:=by
 repeat' (first|(apply z0x;(refine z0b zby rfl rfl ?_))|(apply z03;(refine zno hl rfl hX hZ (by decide) ?_))|refine z05 ?_|fail)
 all_goals exact z00 Tryz.func131 _ (z36 rfl rfl rfl rfl rfl rfl) ⟨by first|rfl|(dsimp only[ptc];rw[← ho2];rfl)|(dsimp only[ptc];rw[← ho1];rfl)|(dsimp only[ptc];rw[← ho1,← ho2];rfl),rfl⟩):p:=h
theorem zD39 {p:Prop} (h:p:=by
 repeat' (first|(apply z06;(first|refine z0b (z1a (ys:=lv.map fun r=>[rgs r]) rfl (idx (g:=fun r=>[rgs r]) hr)) rfl rfl ?_| refine z0b (z1a (ys:=pts.map rcc) rfl (idx (g:=rcc) hx)) rfl rfl ?_))|(apply z08;(refine z0m (z1a (ys:=pts.map rcc) rfl (idx (g:=rcc) hx)) rfl rfl ?_))|(apply z0x;(first|refine z0b (zac (by omega)) rfl rfl ?_| refine z0b z4n rfl rfl ?_))|(apply z1l;(first|refine z0m (zkn (by omega)) rfl rfl ?_| refine z0m zby rfl rfl ?_))|(apply z03;(refine z1i hcl ?_))|refine z05 ?_|refine fk (fun _=>?_) (fun _=>?_))
 all_goals try (exfalso;omega)
 all_goals exact z01 ihn' rfl rfl):p:=h
theorem zD40 {p:Prop} (h:p:=by
 all_goals try (exfalso;first|omega|(simp at *;done))
 all_goals refine z3k (raw:=.glob 1 τ.o0) 700 0 700 (z07 (z0u _ (0,700) _) (by simp)) ?_
 all_goals refine z3k (raw:=.glob 2 τ.o1) 701 0 701 (z07 (z0u _ (0,701) _) (by simp)) ?_
 all_goals exact z00 Tryz.func3 _ z13 ⟨rfl,z3e hX0 hX1⟩):p:=h
theorem zD41 {p:Prop} (h:p:=by
 simp only[exR] at hex
 simp only[y88]
 refine z0a Tryz.func21 (by kernel_rfl) rfl (by simp) ?_
 dsimp only[Tryz.f21]
 repeat' (first | (apply z16; (refine zbp rfl rfl (by decide) ?_)) | (apply z03; (first | refine z6f hex ?_| refine z1i hval ?_| (refine zbh rfl (hof _) (by decide) rfl (fun r H' h => ⟨_, h.1, h.2, rfl, rfl, ?_⟩)) /- z4x -/)) | (apply z1v; (refine z0e z4a ?_)) | refine z05 ?_ | fail)
 all_goals try (exfalso;first|omega|(simp at *;done)|(simp at *;omega))
 all_goals exact z00 Tryz.func21 _ (z04 rfl rfl rfl rfl rfl rfl rfl) ⟨rfl,rfl⟩):p:=h
theorem zD42 {p:Prop} (h:p:=by
 all_goals try (exfalso;omega)
 all_goals ((repeat rw[z0c]);refine z4v wkP ?_;first|exact z00 Tryz.func211 _ (z04 rfl rfl rfl rfl rfl rfl rfl) ⟨rfl,rfl⟩|exact z00 Tryz.func211 _ z0s ⟨rfl,rfl⟩|exact z00 Tryz.func211 _ z13 ⟨rfl,rfl⟩|exact z00 Tryz.func211 _ z1m ⟨rfl,rfl⟩)):p:=h
theorem zD43 {p:Prop} (h:p:=by
 rw[hp] at hb i2
 simp only at i2
 rw[← i2,z9f,z4e]
 rw[rsB] at hb
 repeat' (first|(apply z0f;(refine z2q (z02 _ (e0,X) _) ?_))|(apply z03;(first|refine z1y hb (z02 _ (e0,X) _) (bkT (by repeat (first|exact hT|refine HT.upd ?_ hX0 hX1))) ?_| refine z0p hn (z09 (m:=(e0+1,X)) (z02 _ (e0,X) _) (bkT (by repeat (first|exact hT|refine HT.upd ?_ hX0 hX1)))) ?_))|(apply z0n;(refine z1u (raw':=pbx s ((j+1:Nat):Int) 0 0) (z02 _ (e0,X) _) ?_))|refine z05 ?_|fail)
 all_goals exact zD21):p:=h
theorem zD44 {p:Prop} (h:p:=by
 refine⟨fun m c hc=>?_,fun m1 m2 c1 c2 e1 e2 l1 l2 hn=>?_,hr.heap.lt⟩
 · by_cases hm:m=(md+1,ms)
   · subst hm
     rw[hgone] at hc;simp at hc;subst hc;exact .gone _
   · rw[hne m hm];exact(hr.heap.blk m c hc).reβ (md+1,ms) hne (hold m c hc)
 · have hg1:∀ m c,z0h (push hp up) m=some c→c.live=true→m≠(md+1,ms):=by
    rintro m c hc hl rfl
    rw[hgone] at hc;simp at hc;subst hc;cases hl
   rw[hne m1 (hg1 m1 c1 e1 l1),hne m2 (hg1 m2 c2 e2 l2)]
   exact hr.heap.inj m1 m2 c1 c2 e1 e2 l1 l2 hn):p:=h
theorem zD45 {p:Prop} (h:p:=by
 repeat' (first|(apply z0f;(refine z2q hX ?_))|(apply z03;(first|refine z1y hu (z02 _ (e0,X) _) (bkT (by repeat (first|exact hT|refine HT.upd ?_ hX0 hX1))) ?_| refine z0p hn (z09 (m:=(e0+1,X)) hX (bkT (by repeat (first|exact hT|refine HT.upd ?_ hX0 hX1)))) ?_))|(apply z0v;(refine zua heat (by first|exact rfl|exact⟨_,rfl,rfl,rfl⟩) rfl (z02 _ (e0,X) _) (bkT (by repeat (first|exact hT|refine HT.upd ?_ hX0 hX1))) (by decide) ?_))|(apply z0n;(refine z1u (raw':=pbx s ((i+1:Nat):Int) 0 0) hX ?_))|refine z05 ?_|fail)
 all_goals exact zD7):p:=h
theorem zD46 {p:Prop} (h:p:=by
 all_goals try (exfalso;omega)
 all_goals exact z00 Tryz.func47 _ (z2c rfl rfl rfl rfl rfl rfl rfl rfl) ⟨rfl,rfl⟩):p:=h
theorem zD47 {p:Prop} (h:p:=by
 all_goals try (exfalso;omega)
 all_goals ((repeat rw[z0c]);first|exact z00 Tryz.func128 _ (z04 rfl rfl rfl rfl rfl rfl rfl) ⟨rfl,rfl⟩|exact z00 Tryz.func128 _ z0s ⟨rfl,rfl⟩|exact z00 Tryz.func128 _ z13 ⟨rfl,rfl⟩|exact z00 Tryz.func128 _ z1m ⟨rfl,rfl⟩)):p:=h
theorem zD48 {p:Prop} (h:p:=by
 clear hvs hvE hvN hWe
 obtain⟨F,A⟩:=a
 repeat' (first | (apply z03; (first | refine z6f haw ?_| refine z6f s3 ?_| refine z6f s1 ?_| refine z1i hlo ?_| refine z1i hwi ?_| (refine z63 rfl (hb _) (by decide) rfl (fun r H' h => ⟨_, _, _, h.1, h.2, rfl, rfl, ?_⟩)) /- z4x -/ | refine z1i s4 ?_| refine z1i s5 ?_)) | (apply z1p; (refine z0e z3r ?_)) | (apply z1v; (refine z0e z4a ?_)) | refine z05 ?_ | refine fk (fun _ => ?_) (fun _ => ?_))
 all_goals exact zD28):p:=h
theorem zD49 {p:Prop} (h:p:=by
 refine z0j ?_
 refine z01 (z0z (fun r:Nat × Array Int=>⟨133,[(0,.ref (0,1000)),(1,I .i64 (a:Nat)),(2,I .i64 (b:Nat)),(7,I .i64 (q:Nat)),(8,I .i64 (j:Nat)),(10,I .i64 (r.1:Nat)),(101000,.al (0,1000) (1,1000))],[(1000,rwA r.2)],upd H (0,1000) .gone⟩) (fun r=>r.2.size=d.size∧q<r.1∧r.1≤b∧Go.Sort.shiftUp Go.Sort.ltInt b r.1 r.2=D4) (fun r=>b-r.1) ?_ (q+1,e3) ⟨hz3,by simp only;omega,by simp only;omega,hD4⟩) rfl rfl
 exact zD3):p:=h
theorem zD50 {p:Prop} (h:p:=by
 intro i x m' hx hm'
 rw[hset] at hx
 by_cases hi:i=j
 · subst hi
   rw[zAp (by omega)] at hx
   rw[zAp hjl] at hm'
   simp at hx hm';subst hx;subst hm'
   exact⟨rfl,hz1.1,hz1.2⟩
 · rw[List.getElem?_set_ne (Ne.symm hi)] at hx hm'
   exact hd i (g x.1,x.2) m' (by rw[zAd,hx];rfl) hm'):p:=h
theorem zD51 {p:Prop} (h:p:=by
 constructor
 · rintro((g|g)|⟨e',he',g⟩)
   · exact .inl g
   · exact .inr ⟨e,by simp,g⟩
   · exact .inr ⟨e',by simp[he'],g⟩
 · rintro(g|⟨e',he',g⟩)
   · exact .inl (.inl g)
   · rcases zAc.1 he' with rfl|he'
     · exact .inl (.inr g)
     · exact .inr ⟨e',he',g⟩):p:=h
theorem zD52 {p:Prop} (h:p:=by
 cases hr:Region.ready .any ops.toArray listed with
 | nil=>rfl
 | cons x xs =>
  rw[hr] at hi
  have hlt:tt % (x::xs).length<(x::xs).length:=Nat.mod_lt _ (by simp)
  simp at hi
  simp at hlt
  omega):p:=h
theorem zD53 {p:Prop} (h:p:=by
 have hw:RowKit.Below w.heap.size w { w with drawn:=w.drawn+1 }:=⟨rfl,rfl,rfl,zAj _,fun _ _=>rfl⟩
 have hdone:=key β own a { w with drawn:=w.drawn+1 } (hrep.below hw) b hb hk hn cs
 refine(hdone.ext (Below.ext hw own)).of_steps (.one ?_)
 have:=stepR_region_draw (P:=P) (b:=b) (a:={ a with defers:=b.defers }) (k:=k) (cs:=cs) (w:=w) (ops:=ops.toArray) (id:=id)
 refine this.trans ?_
 simp only[Region.schedule,hmix,Bool.true_or,if_true]
 rfl):p:=h
theorem zD54 {p:Prop} (h:p:=by
 repeat' (first|(apply z0x;(refine z0b (z1g (zak (by omega) (by omega))) rfl rfl ?_))|refine z05 ?_|refine fk (fun _=>?_) (fun _=>?_))
 all_goals try (exfalso;omega)
 all_goals exact z00 Tryz.func179 _ z13 ⟨rfl,rfl⟩):p:=h
theorem zD55 {p:Prop} (h:p:=by
 repeat' (first|(apply z06;(refine z0b (z1a (ys:=lv.map fun r=>[rgs r]) rfl hli) rfl rfl ?_))|(apply z0x;(first|refine z0b (zac (by omega)) rfl rfl ?_| refine z0b (zkn (by omega)) rfl rfl ?_| refine z0b z4n rfl rfl ?_| refine z0b zby rfl rfl ?_))|(apply z03;(refine z1i hcl ?_))|refine z05 ?_|refine fk (fun _=>?_) (fun _=>?_))
 all_goals try (exfalso;omega)
 all_goals exact z01 ihn' rfl rfl):p:=h
theorem zD56 {p:Prop} (h:p:=by
 rw[show zln l 0=none from rfl] at k2
 simp only at k2
 have ihk':=ihk 1 ⟨by omega,by rw[hpk];exact k2,fun y hy=>by rw[hpk] at hy;cases hy;omega⟩ (by omega)
 repeat' (first|(apply z06;(refine z0b (z1a (ys:=l.map z8m) rfl (idx hx)) rfl rfl ?_))|refine z05 ?_|refine fk (fun _=>?_) (fun _=>?_))
 all_goals try (exfalso;omega)
 all_goals exact z01 ihk' rfl rfl):p:=h
theorem zD57 {p:Prop} (h:p:=by
 rintro e W2 ⟨he,own2,hE⟩
 exact⟨_,he,zce (P:=Tryz.prog) (tb:=4) (by kernel_rfl) (by kernel_rfl) hW2 hE rfl rfl (by kernel_rfl) (by kernel_rfl)⟩):p:=h
theorem zD58 {p:Prop} (h:p:=by
 all_goals try (exfalso;omega)
 all_goals exact z00 Tryz.func42 _ (z2c rfl rfl rfl rfl rfl rfl rfl rfl) ⟨rfl,rfl⟩):p:=h
theorem zD59 {p:Prop} (h:p:=by
 show PV.saysL (j,x) (PV.liftL 0 cs)=PV.saysL (j,x) cs
 have h0:∀ p:PV,p.lift 0=p:=by
  intro p
  refine PV.rec (motive_1:=fun p=>p.lift 0=p) (motive_2:=fun ps=>PV.liftL 0 ps=ps) ?_ ?_ ?_ ?_ ?_ ?_ ?_ ?_ ?_ ?_ ?_ ?_ ?_ ?_ ?_ p <;> intros <;> simp_all [PV.lift,PV.liftL]
 have:∀ cs,PV.liftL 0 cs=cs:=by
  intro cs;induction cs with
  | nil=>rfl
  | cons p r ih=>simp[PV.liftL,h0,ih]
 rw[this]):p:=h
theorem zD60 {p:Prop} (h:p:=by
 obtain rfl:j=l.length:=by omega
 rw[zAs,List.foldl_nil] at k3
 rw[← k3] at j3
 have ihi':=ihi (i+1,L2,m2) ⟨by simp only;omega,k2,j3⟩ (by simp only;omega)
 simp only at ihi'
 clear ihi ihj
 repeat' (first|refine z05 ?_|refine fk (fun _=>?_) (fun _=>?_))
 all_goals try (exfalso;omega)
 all_goals exact z01 ihi' rfl rfl):p:=h
theorem zD61 {p:Prop} (h:p:=by
 have:(cur.set j { m with key:=g a,val:=zv }).map (·.born)=cur.map (·.born):=by
  rw[List.map_set]
  apply List.ext_getElem?
  intro i
  rw[List.getElem?_set]
  by_cases hi:j=i
  · subst hi;simp[hjl];exact congrArg MapEntry.born (zA1.1 h2).2.symm
  · simp[hi]
 rw[this];exact hbn):p:=h
theorem zD62 {p:Prop} (h:p:=by
 have hf:(decide (r.1≤c)&&decide (c≤r.2))=false:=by
  rw[← Bool.decide_and];exact zAo hc
 rw[hf,Bool.false_or] at i2
 repeat' (first|(apply z06;(refine z0b (z1a (ys:=l.map rgc) rfl (idx hr)) rfl rfl ?_))|refine z05 ?_|refine fk (fun _=>?_) (fun _=>?_))
 all_goals try (exfalso;omega)
 all_goals exact z01 (ih (q+1) ⟨by omega,i2⟩ (by omega)) rfl rfl):p:=h
theorem zD63 {p:Prop} (h:p:=by
 have hbr:=hr.heap.blk (md+1,ms) _ hlook
 refine HR.install (d:=y) hr0 hfr.1 (Ext.refl w own) hr.heap.lt (v:=β (md+1,ms)) (b:=raw.lift (md+1)) (fun m c hm hc hmy g hg=>?_) (hbr.reβ (0,y) (z2d β y _) (Blk.lift_says _ _ _))
 obtain⟨h1,h2⟩:=key m c hm hc
 exact⟨rfl,(hr.heap.blk m c h2).block_lt hc hg,fun _=>hr.heap.inj m (md+1,ms) c _ h2 hlook hc hl' h1 g hg⟩):p:=h
theorem zD64 {p:Prop} (h:p:=by
 repeat' (first|(apply z16;(refine z8r hk1 rfl rfl rfl (by decide) rfl rfl rfl (by decide) rfl rfl rfl rfl ?_))|(apply z06;(refine z0b (z1a (ys:=ks.map rxc) rfl (zbn hki)) rfl rfl ?_))|(apply z0x;(refine z0b zby rfl rfl ?_))|refine z05 ?_|refine fk (fun _=>?_) (fun _=>?_))
 all_goals try (exfalso;omega)
 all_goals (rw[← ho1,← ho2] at ih';exact z01 ih' rfl rfl)):p:=h
theorem zD65 {p:Prop} (h:p:=by
 rw[his]
 simp only[madeCells,Array.getElem?_toList,Array.getElem?_map]
 rw[Array.getElem?_range]
 simp only[hlt,if_true,Option.map_some,hzsz]
 have hmod:(i'*te.size+j) % te.size=j:=by rw[Nat.add_comm,Nat.add_mul_mod_self_right];exact Nat.mod_eq_of_lt hj
 rw[hmod,← hzc,Array.getElem?_toList,getElem!_pos z.cells j (by omega),Array.getElem?_eq_getElem (by omega)]):p:=h
theorem zD66 {p:Prop} (h:p:=by
 obtain⟨i,u,z,hi,hu,hz,hs,hb,hk',_⟩:=h.get
 rw[hk] at hk'
 cases u <;> simp[TK.ofD] at hk' <;> simp_all):p:=h
theorem zD67 {p:Prop} (h:p:=by
 repeat' (first|refine z05 ?_|refine fk (fun _=>?_) (fun _=>?_))
 all_goals try (exfalso;omega)
 all_goals (refine z00 Tryz.func130 _ z13 ⟨?_,rfl⟩;rw[hvl];simp_all <;> omega)):p:=h
theorem zD68 {p:Prop} (h:p:=by
 have hp:=PR.ref (β:=z4j β d v') (w:=w') (own:=fun g=>own g∨v'.ownBlock=some g) (0,d)
 rw[z19] at hp
 exact hin.put (dst:=some d) (p:=.ref (0,d)) (by simpa[St.fits] using hd) hp):p:=h
theorem zD69 {p:Prop} (h:p:=by
 repeat' (first|(apply z7n;((exact z01 hk rfl rfl)))|(apply z0x;(first|refine z0b (z1h z1j) rfl rfl ?_| refine z0b (z1g z1j) rfl rfl ?_| refine z0b (zbt (by omega) (by decide) z1j) rfl rfl ?_))|(apply z03;(first|refine z3y hi ?_| refine z3y hr ?_))|refine z05 ?_|refine fk (fun _=>?_) (fun _=>?_))
 all_goals try (exfalso;omega)):p:=h
theorem zD70 {p:Prop} (h:p:=by
 simp only[execOp]
 have:(Array.map (fun x:Nat × Operand=>match x with|(i,x)=>(i,a.eval x)) l.toArray)=l.toArray.map fun x=>(x.1,a.eval x.2):=rfl
 rw[this,Sem.run_bind,hrun]
 rfl):p:=h
theorem zD71 {p:Prop} (h:p:=by
 have gq:d'.toList[((q:Nat):Int).toNat]? =some d'[q]!:=z2j (by omega) (by omega)
 have hc:=z1f d'[q]! d'[a]!
 rw[zAi hq.2] at hc
 rw[y3x hq.1 (by simp[Go.Sort.ltInt,hq.2])] at q2
 have ih':=ihq (q+1) ⟨by omega,by omega,q2⟩ (by omega)
 obtain⟨hq1,hq2⟩:=hq
 clear ihq
 all_goals exact zD25):p:=h
theorem zD72 {p:Prop} (h:p:=by
 rw[zAz hc] at i4
 obtain rfl:=i4
 repeat' (first|(apply z06;(refine z0b (z1a (ys:=l.map ic) rfl (idx hk)) rfl rfl ?_))|(apply z03;(refine z0p hsz (hbX _ _ _) ?_))|refine z05 ?_|refine fk (fun _=>?_) (fun _=>?_))
 all_goals try (exfalso;omega)
 all_goals exact z00 Tryz.func29 _ z0s ⟨rfl,rfl⟩):p:=h
theorem zD73 {p:Prop} (h:p:=by
 rw[zAz hc] at i4
 obtain rfl:=i4
 repeat' (first|(apply z06;(refine z0b (z1a (ys:=l.map ic) rfl (idx hk)) rfl rfl ?_))|refine z05 ?_|refine fk (fun _=>?_) (fun _=>?_))
 all_goals try (exfalso;omega)
 all_goals refine zgm 2 rfl ?_
 all_goals exact z00 Tryz.func26 _ z0s ⟨rfl,rfl⟩):p:=h
theorem zD74 {p:Prop} (h:p:=by
 rw[zAz hc] at i4
 obtain rfl:=i4
 repeat' (first|(apply z06;(refine z0b (z1a (ys:=l.map ic) rfl (idx hk)) rfl rfl ?_))|refine z05 ?_|refine fk (fun _=>?_) (fun _=>?_))
 all_goals try (exfalso;omega)
 all_goals refine zgm 2 rfl ?_
 all_goals exact z00 Tryz.func27 _ z0s ⟨rfl,rfl⟩):p:=h
theorem zD75 {p:Prop} (h:p:=by
 rw[zAy h123] at i2
 rw[← i2,z9f,z6j,z3w i1]
 repeat' (first|(apply z0f;(refine z2q (z02 _ (e0,X) _) ?_))|(apply z03;(refine z0p hn (z09 (m:=(e0+1,X)) (z02 _ (e0,X) _) (bkT (by repeat (first|exact hT|refine HT.upd ?_ hX0 hX1)))) ?_))|refine z05 ?_|refine fk (fun _=>?_) (fun _=>?_))
 all_goals exact zD21):p:=h
theorem zD76 {p:Prop} (h:p:=by
 rw[zA4,zAa,zAn,show (((P.length+1:Nat):Int)-1).toNat=P.length by omega];simp):p:=h
theorem zD77 {p:Prop} (h:p:=by
 refine .d _ _ (.agg _ _ (by simpa using hl) h1 fun j x v hx hv=>?_)
 have:=hd j (.d x) v (by rw[zAd,hx];rfl) hv
 cases this with|d _ _ h=>exact h):p:=h
theorem zD78 {p:Prop} (h:p:=by
 all_goals try (exfalso;first|omega|(simp at *;done))
 all_goals exact z01 ihj' rfl rfl):p:=h
theorem zD79 {p:Prop} (h:p:=by
 all_goals try (exfalso;omega)
 all_goals refine z3f (raw:=rwA d') 1000 0 1000 ?_
 all_goals refine z00 Tryz.func174 _ z13 ⟨rfl,?_⟩
 all_goals simp[z61,z1s]):p:=h
theorem zD80 {p:Prop} (h:p:=by
 rw[← hh] at hc
 repeat' (first|(apply z0x;(refine z0b (zoh (by omega)) rfl rfl ?_))|(apply z03;(refine zr2 (first:=[]) (cap:=PV.liftL 1 caps) (ps:=[I .i64 ((((i:Nat):Int)+((j:Nat):Int)) / 2)]) hc rfl rfl (hb _ _ _) (by decide) ?_))|refine z05 ?_|refine fk (fun _=>?_) (fun _=>?_))
 all_goals exact zD10):p:=h
theorem zD81 {p:Prop} (h:p:=by
 clear ih
 repeat' (first|(apply z0x;(refine z0b (z1h z1j) rfl rfl ?_))|(apply z03;(refine z3y hi ?_))|refine z05 ?_|refine fk (fun _=>?_) (fun _=>?_))
 all_goals try (exfalso;omega)
 refine z3f (raw:=rwA S) 1000 0 1000 ?_
 refine z00 Tryz.func133 _ (z2p rfl) ⟨rfl,?_⟩
 simp[z61,z1s]):p:=h
theorem zD82 {p:Prop} (h:p:=by
 refine⟨hgrow.os,hgrow.tape,hgrow.output,hgrow.size,fun b hb hno=>hgrow.block b hb fun e=>hno (ho b e.symm),fun b hb hno=>?_⟩
 rintro(h|h)
 · exact hno h
 · rcases hwhere with e|e
   · rw[e] at h;exact hno (ho b h)
   · rw[e] at h;simp at h;omega):p:=h
theorem zD83 {p:Prop} (h:p:=by
 obtain rfl:k=l.length:=by omega
 rw[zAs,zjo] at k2
 rw[← k2,zAy (by decide)] at i2
 repeat' (first|refine z05 ?_|refine fk (fun _=>?_) (fun _=>?_))
 all_goals try (exfalso;omega)
 all_goals exact z01 (ih (i+1) ⟨by omega,i2⟩ (by omega)) rfl rfl):p:=h
theorem zD84 {p:Prop} (h:p:=by
 all_goals try (exfalso;first|omega|(simp at *;done))
 all_goals refine z3k (raw:=.glob 1 τ.o0) 700 0 700 (z07 (z0u _ (0,700) _) (by simp)) ?_
 all_goals refine z3k (raw:=.glob 2 τ.o1) 701 0 701 (z07 (z0u _ (0,701) _) (by simp)) ?_
 all_goals exact z00 Tryz.func6 _ z13 ⟨rfl,z3e hX0 hX1⟩):p:=h
theorem zD85 {p:Prop} (h:p:=by
 have h1:=(hlist i).2 hx
 rw[Array.getD_eq_getD_getElem?,Array.getElem?_eq_getElem (by omega)] at h1 hun
 simp at h1 hun
 rw[h1] at hun;cases hun):p:=h
theorem zD86 {p:Prop} (h:p:=by
 rw[zAz hc] at i4
 obtain rfl:=i4
 repeat' (first|(apply z06;(refine z0b (z1a (ys:=l.map ic) rfl (idx hk)) rfl rfl ?_))|refine z05 ?_|refine fk (fun _=>?_) (fun _=>?_))
 all_goals try (exfalso;omega)
 all_goals exact z00 Tryz.func30 _ z0s ⟨rfl,rfl⟩):p:=h
theorem zD87 {p:Prop} (h:p:=by
 refine z3k (raw:=.box [.ref (0,5000)]) 700 1 3 (z07 v3 (by simp)) ?_
 refine zdz rfl ⟨rfl,?_⟩
 rw[← hV,z1s,z8d (by simp),z1s,z9n (m:=(1,3)) hb3]):p:=h
theorem zD88 {p:Prop} (h:p:=by
 all_goals try (exfalso;omega)
 all_goals ((repeat rw[z0c]);refine z4v wkP ?_;first|exact z00 Tryz.func197 _ (z04 rfl rfl rfl rfl rfl rfl rfl) ⟨rfl,rfl⟩|exact z00 Tryz.func197 _ z0s ⟨rfl,rfl⟩|exact z00 Tryz.func197 _ z13 ⟨rfl,rfl⟩|exact z00 Tryz.func197 _ z1m ⟨rfl,rfl⟩)):p:=h
theorem zD89 {p:Prop} (h:p:=by
 all_goals try (exfalso;omega)
 all_goals ((repeat rw[z0c]);refine z4v wkP ?_;first|exact z00 Tryz.func210 _ (z04 rfl rfl rfl rfl rfl rfl rfl) ⟨rfl,rfl⟩|exact z00 Tryz.func210 _ z0s ⟨rfl,rfl⟩|exact z00 Tryz.func210 _ z13 ⟨rfl,rfl⟩|exact z00 Tryz.func210 _ z1m ⟨rfl,rfl⟩)):p:=h
theorem zD90 {p:Prop} (h:p:=by
 all_goals try (exfalso;omega)
 all_goals ((repeat rw[z0c]);refine z4v wkP ?_;first|exact z00 Tryz.func214 _ (z04 rfl rfl rfl rfl rfl rfl rfl) ⟨rfl,rfl⟩|exact z00 Tryz.func214 _ z0s ⟨rfl,rfl⟩|exact z00 Tryz.func214 _ z13 ⟨rfl,rfl⟩|exact z00 Tryz.func214 _ z1m ⟨rfl,rfl⟩)):p:=h
theorem zD91 {p:Prop} (h:p:=by
 have hm:t∈(#[22,26]:Array TypeId):=Array.mem_of_getElem? ht
 simp only[List.mem_toArray,zAc,List.not_mem_nil,or_false] at hm
 rcases hm with rfl|rfl
 · exact(show Tryz.prog.wantsStandIn 22=false by kernel_rfl)
 · exact(show Tryz.prog.wantsStandIn 26=false by kernel_rfl)):p:=h
theorem zD92 {p:Prop} (h:p:=by
 apply List.ext_getElem?
 intro i
 rw[List.getElem?_modify,List.getElem?_set]
 by_cases hi:j=i
 · subst hi;simp[h2,hjl];exact congrArg MapEntry.born (zA1.1 h2).2
 · simp[hi]):p:=h
theorem zD93 {p:Prop} (h:p:=by
 rw[MakeChecks.laidMetH_plain _ _ _ (by kernel_rfl)]
 exact laidMet_laidAll _ (by kernel_rfl) (by kernel_rfl)):p:=h
theorem zD94 {p:Prop} (h:p:=by
 generalize hxv:ac.eval x=xv at ex
 cases ex with
 | ref _=>exact hβ):p:=h
theorem zD95 {p:Prop} (h:p:=by
 all_goals try (exfalso;omega)
 all_goals ((repeat rw[z0c]);first|exact z00 Tryz.func208 _ (z04 rfl rfl rfl rfl rfl rfl rfl) ⟨rfl,rfl⟩|exact z00 Tryz.func208 _ z0s ⟨rfl,rfl⟩|exact z00 Tryz.func208 _ z13 ⟨rfl,rfl⟩|exact z00 Tryz.func208 _ z1m ⟨rfl,rfl⟩)):p:=h
theorem zD96 {p:Prop} (h:p:=by
 repeat' (first|(apply z03;(first|refine z3y c1 ?_| refine z1i c2 ?_| refine z1i c4 ?_))|(apply z1v;(refine z0e z4a ?_))|refine z05 ?_|refine fk (fun _=>?_) (fun _=>?_))
 all_goals try (exfalso;omega)
 refine z00 Tryz.func51 _ z13 ⟨?_,rfl⟩
 simp[hp]):p:=h
theorem zD97 {p:Prop} (h:p:=by
 all_goals try (exfalso;omega)
 all_goals ((repeat rw[z0c]);first|exact z00 Tryz.func210 _ (z04 rfl rfl rfl rfl rfl rfl rfl) ⟨rfl,rfl⟩|exact z00 Tryz.func210 _ z0s ⟨rfl,rfl⟩|exact z00 Tryz.func210 _ z13 ⟨rfl,rfl⟩|exact z00 Tryz.func210 _ z1m ⟨rfl,rfl⟩)):p:=h
theorem zD98 {p:Prop} (h:p:=by
 all_goals try (exfalso;omega)
 all_goals ((repeat rw[z0c]);first|exact z00 Tryz.func45 _ (z04 rfl rfl rfl rfl rfl rfl rfl) ⟨rfl,rfl⟩|exact z00 Tryz.func45 _ z0s ⟨rfl,rfl⟩|exact z00 Tryz.func45 _ z13 ⟨rfl,rfl⟩|exact z00 Tryz.func45 _ z1m ⟨rfl,rfl⟩)):p:=h
theorem zD99 {p:Prop} (h:p:=by
 repeat' (first|(apply z03;(first|refine z1y hcl hX (bkT (by repeat (first|exact hT|refine HT.upd ?_ hX0 hX1))) ?_| refine z0p hn (z09 (m:=(e0+1,X)) hX (bkT (by repeat (first|exact hT|refine HT.upd ?_ hX0 hX1)))) ?_))|refine z05 ?_|fail)
 all_goals exact zD7):p:=h
theorem zD100 {p:Prop} (h:p:=by
 repeat' (first|(apply z0x;(refine z0b z4n rfl rfl ?_))|refine z05 ?_|(apply z16;(refine z2b hlt rfl rfl (by decide) ?_)))
 all_goals try (exfalso;omega)
 all_goals exact z00 Tryz.func63 _ z13 ⟨congrArg (fun b=>RV.v (B b)) hfin,rfl⟩):p:=h
theorem zD101 {p:Prop} (h:p:=by
 rw[PV.liftL_get] at hx
 cases hc:cs[j]? with
 | none=>simp[hc] at hx
 | some y=>rw[hc] at hx;simp at hx;subst hx;exact ih j y v hc hv):p:=h
theorem zD102 {p:Prop} (h:p:=by
 obtain⟨h1,h2⟩:=hr
 refine⟨h1,?_⟩
 rcases h2 with h2|⟨g,cap,cur,hv,hb,hg,rest⟩
 · exact .inl h2
 · subst hv
   refine .inr ⟨g,cap,cur,rfl,hb,?_,rest⟩
   rw[(hk rfl g rfl).1];exact hg):p:=h
theorem zD103 {p:Prop} (h:p:=by
 rw[hβ] at hbr ⊢
 cases hbr with
 | lp g _ _ _ _ _ _ _ _ tmps' df' ho' hg' hl hd =>
  rw[hg] at hg';simp at hg'
  obtain⟨rfl,rfl⟩:=hg'
  exact .lp L n' f' ps asg body _ state' pend' tmps df ho hhere hl fun t p hp=>(hd t p hp).mono hE):p:=h
theorem zD104 {p:Prop} (h:p:=by
 all_goals refine z3k (raw:=.glob 1 τ.o0) 700 0 700 (z07 (z0u _ (0,700) _) (by simp)) ?_
 all_goals refine z3k (raw:=.glob 2 τ.o1) 701 0 701 (z07 (z0u _ (0,701) _) (by simp)) ?_
 all_goals exact z00 Tryz.func7 _ z13 ⟨rfl,z3e hX0 hX1⟩):p:=h
theorem zD105 {p:Prop} (h:p:=by
 repeat' (first|refine z05 ?_|refine fk (fun _=>?_) (fun _=>?_))
 all_goals exact zD10):p:=h
theorem zD106 {p:Prop} (h:p:=by
 by_cases hji:j=i
 · subst hji;simp[hsz,hilt]
 · rw[getD_set_ne false (Ne.symm hji),hlist];simp[hji]):p:=h
theorem zD107 {p:Prop} (h:p:=by
 all_goals ((repeat rw[z0c]);first|exact z00 Tryz.func48 _ (z04 rfl rfl rfl rfl rfl rfl rfl) ⟨rfl,rfl⟩|exact z00 Tryz.func48 _ z0s ⟨rfl,rfl⟩|exact z00 Tryz.func48 _ z13 ⟨rfl,rfl⟩|exact z00 Tryz.func48 _ z1m ⟨rfl,rfl⟩)):p:=h
theorem zD108 {p:Prop} (h:p:=by
 all_goals try (exfalso;omega)
 all_goals exact z00 Tryz.func63 _ z13 ⟨rfl,rfl⟩):p:=h
theorem zD109 {p:Prop} (h:p:=by
 all_goals try (exfalso;omega)
 all_goals exact z00 Tryz.func46 _ z13 ⟨rfl,rfl⟩):p:=h
theorem zD110 {p:Prop} (h:p:=by
 repeat' (first|(apply z1q;(refine z0b (z3g rfl) rfl rfl ?_))|refine z05 ?_|refine fk (fun _=>?_) (fun _=>?_))
 all_goals try (exfalso;omega)
 all_goals exact z00 xN _ (z04 rfl rfl rfl rfl rfl rfl rfl) ⟨rfl,rfl⟩):p:=h
theorem zD111 {p:Prop} (h:p:=by
 intro h
 cases l with
 | nil=>simp[z9d] at h
 | cons c l =>
  rw[z3u] at h
  split at h
  · cases l with
    | nil=>simp at h
    | cons d l=>simp only at h;split at h <;> simp at h
  · split at h <;> simp at h):p:=h
theorem zD112 {p:Prop} (h:p:=by
 repeat' (first|(apply z1v;(refine z0e z4a ?_))|refine z05 ?_|refine fk (fun _=>?_) (fun _=>?_))
 all_goals try (exfalso;simp only[zA4] at *;omega)
 all_goals exact z00 Tryz.func37 _ z13 ⟨rfl,rfl⟩):p:=h
theorem zD113 {p:Prop} (h:p:=by
 repeat' (first|(apply z1v;(refine z0e z4a ?_))|refine z05 ?_|refine fk (fun _=>?_) (fun _=>?_))
 all_goals try (exfalso;simp only[zA4] at *;omega)
 all_goals exact z00 Tryz.func20 _ z13 ⟨rfl,rfl⟩):p:=h
theorem zD114 {p:Prop} (h:p:=by
 repeat' (first|(apply z1q;(refine z0b (z3g rfl) rfl rfl ?_))|refine z05 ?_|refine fk (fun _=>?_) (fun _=>?_))
 all_goals try (exfalso;omega)
 refine z10 1000 rfl ?_
 exact z00 Tryz.func94 _ z13 ⟨rfl,rfl⟩):p:=h
theorem zD115 {p:Prop} (h:p:=by
 rw[hr] at hrun
 simp only[Result.ok.injEq] at hrun
 right;rw[← hrun.1];rfl):p:=h
theorem zD116 {p:Prop} (h:p:=by
 simp only[zpg,Bool.or_eq_false_iff,zA5,zA8,zA3] at hl1
 exact hl1.2):p:=h
theorem zD117 {p:Prop} (h:p:=by
 have hB:RowKit.Below w1.heap.size w1 (grow w1 os):=⟨rfl,rfl,rfl,by simp[grow],fun k hk=>by simp only[grow];rw[Array.getElem?_append_left hk]⟩
 exact fin _ (hE.trans (Below.ext hB own)) (hR1.below hB)):p:=h
theorem zD118 {p:Prop} (h:p:=by
 simp only[List.drop_succ_cons,List.drop_zero,List.cons_append,List.nil_append,List.cons.injEq,and_true]
 omega):p:=h
theorem zD119 {p:Prop} (h:p:=by
 repeat' (first|(apply z03;(first|refine zhd hu rfl rfl (bkT hT) (by decide) ?_|refine z1i hat ?_| refine z1i hv ?_))|refine z05 ?_|refine fk (fun _=>?_) (fun _=>?_))
 all_goals exact zD46):p:=h
theorem zD120 {p:Prop} (h:p:=by
 rw[List.map_append,List.pairwise_append]
 refine⟨hbn,by simp,fun u hu v hv=>?_⟩
 obtain⟨m,hm,rfl⟩:=List.mem_map.1 hu
 simp at hv;subst hv
 exact hc m hm):p:=h
theorem zD121 {p:Prop} (h:p:=by
 rw[zh3] at hp
 cases hc:cs[j]? with
 | none=>rw[hc] at hp;simp at hp
 | some c=>rw[hc] at hp;simp at hp;subst hp;exact(hd j c v hc hv).ren):p:=h
theorem zD122 {p:Prop} (h:p:=by
 rcases i2 with ⟨h1,rfl,i4⟩|⟨j,pre,b,pr,h1,j1,rfl,j2,j3,i4⟩
 · rw[List.length_eq_zero_iff.1 h1] at i4;rw[← i4];rfl
 · rw[zAs,zhs] at i4;exact i4):p:=h
theorem zD123 {p:Prop} (h:p:=by
 all_goals refine z2g 103 1003 ?_
 all_goals exact z01 ihj' rfl rfl):p:=h
theorem zD124 {p:Prop} (h:p:=by
 rw[zga] at hp
 cases hc:cs[j]? with
 | none=>rw[hc] at hp;simp at hp
 | some c=>rw[hc] at hp;simp at hp;subst hp;exact PR.frz hD (hd j c v hc hv)):p:=h
theorem zD125 {p:Prop} (h:p:=by
 rename_i hc
 have k4:=iQ _ _ _ _ h
 have k5:=z5r hc (by decide)
 rw[kr] at k4;omega):p:=h
theorem zD126 {p:Prop} (h:p:=by
 unfold zag at hn ⊢
 cases hm:R.rnd with
 | none=>rw[hm] at hn;exact hn
 | some m =>
  rw[hm] at hn
  obtain⟨hv,L,h1,h2⟩:=hn
  exact⟨hv,L,h1,(hout m hv).trans h2⟩):p:=h
theorem zD127 {p:Prop} (h:p:=by
 repeat' (first|(apply z7n;((exact z01 hk rfl rfl)))|(apply z0x;(refine z0b (z1h z1j) rfl rfl ?_))|(apply z03;(refine z3y hi ?_))|refine z05 ?_|fail)
 all_goals try (exfalso;omega)):p:=h
theorem zD128 {p:Prop} (h:p:=by
 simp only at hp'
 rw[z5d] at hp'
 cases hq':look tm t with
 | none=>rw[hq'] at hp';cases hp'
 | some q=>rw[hq'] at hp';simp at hp';subst hp';exact(hr.tm t q hq').drop hne):p:=h
theorem zD129 {p:Prop} (h:p:=by
 intro m' hm'
 rcases List.mem_or_eq_of_mem_set hm' with h|h
 · exact hc m' h
 · subst h;exact hc m (zA2 h2)):p:=h
theorem zD130 {p:Prop} (h:p:=by
 rcases i2 with ⟨h1,rfl,i4⟩|⟨j,pr,h1,j1,i4⟩
 · rw[List.length_eq_zero_iff.1 h1] at i4;rw[← i4];rfl
 · rw[zAs,cnR] at i4;exact i4):p:=h
theorem zD131 {p:Prop} (h:p:=by
 intro m c hm hc
 rw[z5a,z2n] at hm
 by_cases e:m=(md+1,ms)
 · rw[zAz e] at hm;simp[atF,Blk.lift] at hm;subst hm;cases hc
 · rw[zAy e] at hm;exact⟨e,hm⟩):p:=h
theorem zD132 {p:Prop} (h:p:=by
 rw[show ((((pre++[p]).length:Nat):Int)-1).toNat=pre.length by simp]
 simp):p:=h
theorem zD133 {p:Prop} (h:p:=by
 refine⟨by rw[← hw1];rfl,by rw[← hw1];rfl,by rw[← hw1];rfl,by omega,fun b hb hob=>?_,fun b hb hob=>hob⟩
 rw[hheap,zAy fun hh=>hob (by rw[← hh];exact hog)]):p:=h
theorem zD134 {p:Prop} (h:p:=by
 rw[hp] at hch
 rcases hc with hc|hc
 · all_goals exact zD11
 · rw[hc] at hcr
   all_goals exact zD11):p:=h
theorem zD135 {p:Prop} (h:p:=by
 rw[hal2,show (((m.length+1:Nat):Int)-1).toNat=m.length by omega];simp):p:=h
theorem zD136 {p:Prop} (h:p:=by
 cases ez with
 | d _ _ h =>
  refine⟨?_,h⟩
  cases h with
  | lit _ h1=>exact h1
  | nil=>rfl
  | slice=>rfl
  | agg=>simp[y2j] at hok
  | ifc=>rfl):p:=h
theorem zD137 {p:Prop} (h:p:=by
 all_goals try (exfalso;omega)
 all_goals exact z00 Tryz.func37 _ z13 ⟨rfl,rfl⟩):p:=h
theorem zD138 {p:Prop} (h:p:=by
 all_goals try (exfalso;omega)
 all_goals exact z00 Tryz.func20 _ z13 ⟨rfl,rfl⟩):p:=h
theorem zD139 {p:Prop} (h:p:=by
 repeat' (first|refine z05 ?_|refine fk (fun _=>?_) (fun _=>?_))
 all_goals try (exfalso;omega)
 exact z00 Tryz.func91 _ z13 ⟨rfl,rfl⟩):p:=h
theorem zD140 {p:Prop} (h:p:=by
 intro m hm
 rcases zAt.1 hm with hm|hm
 · have:=hc m hm;omega
 · simp at hm;subst hm;simp):p:=h
theorem zD141 {p:Prop} (h:p:=by
 rintro(e|e|e)
 · exact .inr (.inl e)
 · exact .inl e
 · exact .inr (.inr e)):p:=h
theorem zD142 {p:Prop} (h:p:=by
 repeat' (first|refine z05 ?_|refine fk (fun _=>?_) (fun _=>?_))
 all_goals try (exfalso;omega)
 all_goals exact z00 Tryz.func120 _ z13 ⟨rfl,rfl⟩):p:=h
theorem zD143 {p:Prop} (h:p:=by
 simp only[List.nil_append] at e;subst e
 obtain⟨j,h3,h4,h5⟩:=h2
 exact⟨j,.inr ⟨h1,h3⟩,h4,(zbd hab hFb hla w j (hfb j h3)).2 h5⟩):p:=h
theorem zD144 {p:Prop} (h:p:=by
 split at h
 · simp at h
 · simp only[Rd.ok.injEq] at h;omega):p:=h
theorem zD145 {p:Prop} (h:p:=by
 all_goals try (exfalso;omega)
 all_goals rw[show (2*(r:Int)+1)=(((2*r+1):Nat):Int) by omega]
 all_goals exact z01 ih' rfl rfl):p:=h
theorem zD146 {p:Prop} (h:p:=by
 repeat' (first|refine z05 ?_|refine fk (fun _=>?_) (fun _=>?_))
 all_goals try (exfalso;omega)
 all_goals exact z00 Tryz.func16 _ z13 ⟨rfl,rfl⟩):p:=h
theorem zD147 {p:Prop} (h:p:=by
 rcases hown.2 with ⟨h1,_⟩|⟨g,cap,cur,h1,_⟩
 · exact⟨none,0,h1⟩
 · exact⟨_,cap,by simpa using h1⟩):p:=h
theorem zD148 {p:Prop} (h:p:=by
 split at h
 · simp at h
 split at h
 · simp at h
 split at h
 · split at h <;> simp at h
 · split at h <;> simp at h):p:=h
theorem zD149 {p:Prop} (h:p:=by
 all_goals try (exfalso;omega)
 all_goals exact z00 Tryz.func50 _ z13 ⟨rfl,rfl⟩):p:=h
theorem zD150 {p:Prop} (h:p:=by
 repeat' (first|(apply z03;(refine z1i hst ?_))|refine z05 ?_|(apply z16;(refine z1o hlt rfl rfl (by decide) ?_)))
 all_goals exact zD10):p:=h
theorem zD151 {p:Prop} (h:p:=by
 rw[zat] at hx
 cases hc:cs[j]? with
 | none=>rw[hc] at hx;cases hx
 | some y=>rw[hc] at hx;simp at hx;subst hx;exact(hd j y u hc hu).alias hab):p:=h
theorem zD152 {p:Prop} (h:p:=by
 rename_i hc
 have k5:=z5r hc (by decide)
 exact iQ _ _ (by omega) h2):p:=h
theorem zD153 {p:Prop} (h:p:=by
 repeat' (first|(apply z7n;((exact z01 hk rfl rfl)))|refine z05 ?_|refine fk (fun _=>?_) (fun _=>?_))
 all_goals try (exfalso;omega)):p:=h
theorem zD154 {p:Prop} (h:p:=by
 rintro(h|h|h)
 · exact .inr (.inl h)
 · exact .inl h
 · exact .inr (.inr h)):p:=h
theorem zD155 {p:Prop} (h:p:=by
 repeat' (first|refine z05 ?_|refine fk (fun _=>?_) (fun _=>?_))
 all_goals try (exfalso;omega)
 exact z00 Tryz.func219 _ z13 ⟨rfl,rfl⟩):p:=h
theorem zD156 {p:Prop} (h:p:=by
 cases v with
 | slice a l c=>cases a <;> simp[Value.ownBlock] at hg;subst hg;exact(hk rfl _ rfl).2
 | _=>simp[Value.ownBlock] at hg):p:=h
theorem zD157 {p:Prop} (h:p:=by
 rcases hr.2 with h2|⟨g,cap,cur,hv,hb,hg,rest⟩
 · exact .inl h2
 · exact .inr ⟨g,cap,cur,hv,hb,h.cell hg (by simp),rest⟩):p:=h
theorem zD158 {p:Prop} (h:p:=by
 rcases hr.2 with h|⟨g',cap,cur,hv,_⟩
 · rw[h.1] at hg;simp[z1e] at hg
 · subst hv;simp[z1e] at hg;subst hg;exact ho _ rfl):p:=h
theorem zD159 {p:Prop} (h:p:=by
 constructor
 · intro h;exact⟨[],[],rfl,h,zo1 _⟩
 · rintro⟨u,v,e,h1,h2⟩
   obtain⟨rfl,rfl⟩:=zai e
   exact h1):p:=h
theorem zD160 {p:Prop} (h:p:=by
 rw[zn0]
 split
 · exact fun e=>h92 e.symm
 · rename_i hc
   intro e;rw[e,hd] at hc;exact hc rfl):p:=h
theorem zD161 {p:Prop} (h:p:=by
 rw[z9m q a j xq h1' h3 h4] at hr
 subst hr
 exact .d _ _ (hdd j (g xq.1,xq.2) m (by rw[zAd,h1'];rfl) h2).2.2):p:=h
theorem zD162 {p:Prop} (h:p:=by
 rw[List.flatMap_cons,zfn,zAl,zAl,zAl,z3q,zAl]
 exact zcq _ _ rfl (by decide)):p:=h
theorem zD163 {p:Prop} (h:p:=by
 simp only[List.getD_cons_zero,List.getD_cons_succ]
 rw[e,zAz (by rw[zA7,zA3];exact⟨by omega,hv⟩)];rfl):p:=h
theorem zD164 {p:Prop} (h:p:=by
 rcases this with h|h
 · simp only[execOp,hv,Instr.loadAt,Instr.sureAddr];simp[h,ha]
 · exact absurd hs h.2):p:=h
theorem zD165 {p:Prop} (h:p:=by
 cases l with
 | nil=>rfl
 | cons s l =>
  obtain⟨_,_,h3,h4,_⟩:=hs
  have:=hb s (by simp)
  omega):p:=h
theorem zD166 {p:Prop} (h:p:=by
 simp only[zAt] at hq
 rcases hq with hq|hq
 · exact hg.agrees q hq
 · exact z3d hz1 q hq):p:=h
theorem zD167 {p:Prop} (h:p:=by
 obtain⟨b1,h1,l1⟩:=hm x bx hx lx
 obtain⟨b2,h2,l2⟩:=hm y by' hy ly
 exact h.inj x y b1 b2 h1 h2 l1 l2 hne g' hg'):p:=h
theorem zD168 {p:Prop} (h:p:=by
 all_goals try (exfalso;omega)
 all_goals rw[show ((k+1:Nat):Int)-1-1=(k:Nat)-1 by omega]
 all_goals exact z01 ih' rfl rfl):p:=h
theorem zD169 {p:Prop} (h:p:=by
 all_goals try (exfalso;first|omega|(simp at *;done)|(simp at *;omega))
 all_goals exact z00 Tryz.func31 _ z0s ⟨rfl,rfl⟩):p:=h
theorem zD170 {p:Prop} (h:p:=by
 all_goals try (exfalso;omega)
 all_goals refine z2g 20 1000 ?_
 all_goals exact z01 ih' rfl rfl):p:=h
theorem zD171 {p:Prop} (h:p:=by
 all_goals try (exfalso;omega)
 all_goals refine z2g 60 1000 ?_
 all_goals exact z01 ih' rfl rfl):p:=h
theorem zD172 {p:Prop} (h:p:=by
 repeat' (first|(apply z7n;((exact z01 hk rfl rfl)))|refine z05 ?_|fail)
 all_goals try (exfalso;omega)):p:=h
theorem zD173 {p:Prop} (h:p:=by
 rw[Nat.div_add_mod' j te.size,hj] at h2
 rw[List.all_eq_true] at hz
 exact hz v (zA2 h2.symm)):p:=h
theorem zD174 {p:Prop} (h:p:=by
 rename_i e;rw[e] at h;exact⟨List.IsSuffix.trans h (z1z l),trivial⟩):p:=h
theorem zD175 {p:Prop} (h:p:=by
 simp only[List.getElem?_cons_succ,List.getElem?_cons_zero,zAh] at hp hv
 subst hp hv;exact hz):p:=h
theorem zD176 {p:Prop} (h:p:=by
 split
 · exact⟨List.suffix_refl _,trivial⟩
 · exact⟨List.suffix_cons c l,by simp[Rd.ate]⟩):p:=h
theorem zD177 {p:Prop} (h:p:=by
 simp[execOp,ex',ey,Instr.lookup,run_underlying hm,Go.MapKept.run_getObj_map hg,hk.check w,h2,Result.andThen,hz0]):p:=h
theorem zD178 {p:Prop} (h:p:=by
 rintro e' w' ⟨rfl,rfl⟩
 refine fin _ (Ext.refl _ _) ?_
 rw[z9n (m:=(d,x)) hH0]
 exact hHR):p:=h
