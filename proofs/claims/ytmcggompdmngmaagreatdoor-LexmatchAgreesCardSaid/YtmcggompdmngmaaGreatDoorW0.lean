/- Blocks of steps that end a branch. -/
import Derived.WalkKit
import Derived.RangeFuncRecord
import Derived.Laws.StructEq
import Derived.KernelRfl
import Derived.Great.BuildSlice
set_option maxRecDepth 1000000
set_option maxHeartbeats 20000000
theorem zA0:type_of% @List.getElem?_eq_getElem:=@List.getElem?_eq_getElem
theorem zA1:type_of% @List.getElem?_eq_some_iff:=@List.getElem?_eq_some_iff
theorem zA2:type_of% @List.mem_of_getElem?:=@List.mem_of_getElem?
theorem zA3:type_of% @decide_eq_true_eq:=@decide_eq_true_eq
theorem zA4:type_of% @List.length_map:=@List.length_map
theorem zA5:type_of% @decide_eq_false_iff_not:=@decide_eq_false_iff_not
theorem zA6:type_of% @Bool.not_eq_true':=@Bool.not_eq_true'
theorem zA7:type_of% @Bool.and_eq_true:=@Bool.and_eq_true
theorem zA8:type_of% @Bool.not_eq_false':=@Bool.not_eq_false'
theorem zA9:type_of% @Int.toNat_natCast:=@Int.toNat_natCast
theorem zAa:type_of% @List.length_append:=@List.length_append
theorem zAb:type_of% @List.getElem?_append_left:=@List.getElem?_append_left
theorem zAc:type_of% @List.mem_cons:=@List.mem_cons
theorem zAd:type_of% @List.getElem?_map:=@List.getElem?_map
theorem zAe:type_of% @Array.length_toList:=@Array.length_toList
theorem zAf:type_of% @Nat.zero_le:=@Nat.zero_le
theorem zAg:type_of% @List.getElem?_append_right:=@List.getElem?_append_right
theorem zAh:type_of% @Option.some.injEq:=@Option.some.injEq
theorem zAi:type_of% @decide_eq_true:=@decide_eq_true
theorem zAj:type_of% @Nat.le_refl:=@Nat.le_refl
theorem zAk:type_of% @List.length_cons:=@List.length_cons
theorem zAl:type_of% @List.append_assoc:=@List.append_assoc
theorem zAm:type_of% @List.length_take:=@List.length_take
theorem zAn:type_of% @List.length_singleton:=@List.length_singleton
theorem zAo:type_of% @decide_eq_false:=@decide_eq_false
theorem zAp:type_of% @List.getElem?_set_self:=@List.getElem?_set_self
theorem zAq:type_of% @List.mem_singleton:=@List.mem_singleton
theorem zAr:type_of% @List.length_replicate:=@List.length_replicate
theorem zAs:type_of% @List.drop_length:=@List.drop_length
theorem zAt:type_of% @List.mem_append:=@List.mem_append
theorem zAu:type_of% @Bool.or_eq_true:=@Bool.or_eq_true
theorem zAv:type_of% @List.getElem?_eq_none:=@List.getElem?_eq_none
theorem zAw:type_of% @List.getElem?_of_mem:=@List.getElem?_of_mem
theorem zAx:type_of% @Nat.lt_of_lt_of_le:=@Nat.lt_of_lt_of_le
theorem zAy:type_of% @if_neg:=@if_neg
theorem zAz:type_of% @if_pos:=@if_pos
theorem zD1 {p:Prop} (h:p:=by
 rw[zAy hend] at i4
 have hm:=zc5 hX0 hX1 τ s hs j i1 (e0+1)
 have hnd:acc.length≠0→nx (rst s j)≠93:=fun h h2=>hend ⟨fun h3=>h (by rw[h3];rfl),h2⟩
 rcases hp:z92 spC (rst s j) with ⟨a,r⟩|⟨a,e⟩|_
 · obtain⟨⟨ha0,ha1⟩,j1,hj1,hj1s,rfl⟩:=zg1 i1 hp
   rw[hp,z3u hj1s] at hm
   have hn2:=z42 (X:=X) τ s j1 hj1s 0 0 (e0+1)
   by_cases h45:nx (rst s j1)=45
   · obtain⟨hjl,htj,hej⟩:=z2e hj1s h45 (by decide) (by decide)
     have hm2:=zc5 hX0 hX1 τ s hs (j1+1) hjl (e0+1)
     rcases hp2:z92 spC (rst s (j1+1)) with ⟨b,r⟩|⟨b,e⟩|_
     · obtain⟨⟨hb0,hb1⟩,j2,hj2,hj2s,rfl⟩:=zg1 hjl hp2
       rw[hp2,z3u hj2s] at hm2
       by_cases hba:b<a
       · have hpr:z95 (rst s j)=.err (rst s j) 8:=by
          rw[z95,hp];simp only
          rw[zAz h45,htj,hp2];simp only
          rw[zAz hba]
         rw[hpr] at i4
         subst i4
         rw[zpp,z5j i1]
         have hf:=z5p (X:=X) s (I .i64 (j2:Nat)) (j:Nat) 8 (e0+1) (by decide)
         repeat' (first|(apply z0i;(refine z2r (z02 _ (e0,X) _) ?_))|(apply z03;(first|refine z2x hf rfl (z02 _ (e0,X) _) (by decide) ?_|refine z1v hm2 (z02 _ (e0,X) _) (bkT (by repeat (first|exact hT|refine HT.upd ?_ hX0 hX1))) ?_| refine z1v hm (z02 _ (e0,X) _) (bkT (by repeat (first|exact hT|refine HT.upd ?_ hX0 hX1))) ?_| refine z0s hn2 (z07 (m:=(e0+1,X)) (z02 _ (e0,X) _) (bkT (by repeat (first|exact hT|refine HT.upd ?_ hX0 hX1)))) ?_| refine z0s hnj (z07 (m:=(e0+1,X)) (z02 _ (e0,X) _) (bkT (by repeat (first|exact hT|refine HT.upd ?_ hX0 hX1)))) ?_))|(apply z0o;(refine z1r (raw':=pbx s ((j1+1:Nat):Int) 0 0) (z02 _ (e0,X) _) ?_))|refine z05 ?_|refine fk (fun _=>?_) (fun _=>?_))
         all_goals try (exfalso;omega)
         all_goals ((repeat rw[z0a]);refine z4r wkP ?_;first|exact z00 Tryz.func208 _ (z04 rfl rfl rfl rfl rfl rfl rfl) ⟨rfl,rfl⟩|exact z00 Tryz.func208 _ z0z ⟨rfl,rfl⟩|exact z00 Tryz.func208 _ z11 ⟨rfl,rfl⟩|exact z00 Tryz.func208 _ z1h ⟨rfl,rfl⟩)
       · have hpr:z95 (rst s j)=.ok (a,b) (rst s j2):=by
          rw[z95,hp];simp only
          rw[zAz h45,htj,hp2];simp only
          rw[zAy hba]
         rw[hpr] at i4
         simp only at i4
         repeat' (first|(apply z0i;(refine z2r (z02 _ (e0,X) _) ?_))|(apply z1q;(refine z47 (g:=rgc) (a,b) rfl ?_))|(apply z03;(first|refine z1v hm2 (z02 _ (e0,X) _) (bkT (by repeat (first|exact hT|refine HT.upd ?_ hX0 hX1))) ?_| refine z1v hm (z02 _ (e0,X) _) (bkT (by repeat (first|exact hT|refine HT.upd ?_ hX0 hX1))) ?_| refine z0s hn2 (z07 (m:=(e0+1,X)) (z02 _ (e0,X) _) (bkT (by repeat (first|exact hT|refine HT.upd ?_ hX0 hX1)))) ?_| refine z0s hnj (z07 (m:=(e0+1,X)) (z02 _ (e0,X) _) (bkT (by repeat (first|exact hT|refine HT.upd ?_ hX0 hX1)))) ?_))|(apply z0o;(refine z1r (raw':=pbx s ((j1+1:Nat):Int) 0 0) (z02 _ (e0,X) _) ?_))|refine z05 ?_|refine fk (fun _=>?_) (fun _=>?_))
         all_goals try (exfalso;omega)
         all_goals (refine z2i 86 1000 ?_;(repeat rw[z0a]);exact z01 (ih (m,acc++[(a,b)],j2) ⟨hj2s,by simp only[zAa,zAn];omega,fun r hr=>by
          rw[zAt,zAq] at hr
          rcases hr with hr|rfl
          · exact i3 r hr
          · simp only;omega,i4⟩ (by simp only;omega)) rfl rfl)
     · rw[hp2] at hm2
       have hpr:z95 (rst s j)=.err b e:=by
        rw[z95,hp];simp only
        rw[zAz h45,htj,hp2]
       rw[hpr] at i4
       subst i4
       repeat' (first|(apply z0i;(refine z2r (z02 _ (e0,X) _) ?_))|(apply z03;(first|refine z1v hm2 (z02 _ (e0,X) _) (bkT (by repeat (first|exact hT|refine HT.upd ?_ hX0 hX1))) ?_| refine z1v hm (z02 _ (e0,X) _) (bkT (by repeat (first|exact hT|refine HT.upd ?_ hX0 hX1))) ?_| refine z0s hn2 (z07 (m:=(e0+1,X)) (z02 _ (e0,X) _) (bkT (by repeat (first|exact hT|refine HT.upd ?_ hX0 hX1)))) ?_| refine z0s hnj (z07 (m:=(e0+1,X)) (z02 _ (e0,X) _) (bkT (by repeat (first|exact hT|refine HT.upd ?_ hX0 hX1)))) ?_))|(apply z0o;(refine z1r (raw':=pbx s ((j1+1:Nat):Int) 0 0) (z02 _ (e0,X) _) ?_))|refine z05 ?_|refine fk (fun _=>?_) (fun _=>?_))
       all_goals try (exfalso;omega)
       all_goals ((repeat rw[z0a]);first|exact z00 Tryz.func208 _ (z04 rfl rfl rfl rfl rfl rfl rfl) ⟨rfl,rfl⟩|exact z00 Tryz.func208 _ z0z ⟨rfl,rfl⟩|exact z00 Tryz.func208 _ z11 ⟨rfl,rfl⟩|exact z00 Tryz.func208 _ z1h ⟨rfl,rfl⟩)
     · exact absurd hp2 z9j
   · have hpr:z95 (rst s j)=.ok (a,a) (rst s j1):=by
      rw[z95,hp];simp only
      rw[zAy h45]
     rw[hpr] at i4
     simp only at i4
     repeat' (first|(apply z0i;(refine z2r (z02 _ (e0,X) _) ?_))|(apply z1q;(refine z47 (g:=rgc) (a,a) rfl ?_))|(apply z03;(first|refine z1v hm (z02 _ (e0,X) _) (bkT (by repeat (first|exact hT|refine HT.upd ?_ hX0 hX1))) ?_| refine z0s hn2 (z07 (m:=(e0+1,X)) (z02 _ (e0,X) _) (bkT (by repeat (first|exact hT|refine HT.upd ?_ hX0 hX1)))) ?_| refine z0s hnj (z07 (m:=(e0+1,X)) (z02 _ (e0,X) _) (bkT (by repeat (first|exact hT|refine HT.upd ?_ hX0 hX1)))) ?_))|refine z05 ?_|refine fk (fun _=>?_) (fun _=>?_))
     all_goals try (exfalso;omega)
     all_goals (refine z2i 86 1000 ?_;(repeat rw[z0a]);exact z01 (ih (m,acc++[(a,a)],j1) ⟨hj1s,by simp only[zAa,zAn];omega,fun r hr=>by
      rw[zAt,zAq] at hr
      rcases hr with hr|rfl
      · exact i3 r hr
      · simp only;omega,i4⟩ (by simp only;omega)) rfl rfl)
 · rw[hp] at hm
   have hpr:z95 (rst s j)=.err a e:=by rw[z95,hp]
   rw[hpr] at i4
   subst i4
   repeat' (first|(apply z0i;(refine z2r (z02 _ (e0,X) _) ?_))|(apply z03;(first|refine z1v hm (z02 _ (e0,X) _) (bkT (by repeat (first|exact hT|refine HT.upd ?_ hX0 hX1))) ?_| refine z0s hnj (z07 (m:=(e0+1,X)) (z02 _ (e0,X) _) (bkT (by repeat (first|exact hT|refine HT.upd ?_ hX0 hX1)))) ?_))|refine z05 ?_|refine fk (fun _=>?_) (fun _=>?_))
   all_goals try (exfalso;omega)
   all_goals ((repeat rw[z0a]);first|exact z00 Tryz.func208 _ (z04 rfl rfl rfl rfl rfl rfl rfl) ⟨rfl,rfl⟩|exact z00 Tryz.func208 _ z0z ⟨rfl,rfl⟩|exact z00 Tryz.func208 _ z11 ⟨rfl,rfl⟩|exact z00 Tryz.func208 _ z1h ⟨rfl,rfl⟩)
 · exact absurd hp z9j):p:=h
theorem zD2 {p:Prop} (h:p:=by
 clear hD4
 rintro⟨r,d5⟩ ⟨r1,r2,r3,r4⟩ ihr
 simp only at r1 r2 r3 r4 ihr ⊢
 by_cases hr:r<b∧d5[r]!<d5[r-1]!
 · rw[zv6 hr.1 hr.2] at r4
   have g0:d5.toList[((r:Nat):Int).toNat]? =some d5[r]!:=z2f (by omega) (by omega)
   have gc:d5.toList[(((r:Nat):Int)-1).toNat]? =some d5[r-1]!:=z2f (by omega) (by omega)
   have s1:d5.toList.set ((r:Nat):Int).toNat d5[r-1]! =(d5.setIfInBounds r d5[r-1]!).toList:=z2s (by omega) _
   have g1:(d5.setIfInBounds r d5[r-1]!).toList[(((r:Nat):Int)-1).toNat]? =some (d5.setIfInBounds r d5[r-1]!)[r-1]!:=z2f (by omega) (by simp;omega)
   have s2:(d5.setIfInBounds r d5[r-1]!).toList.set (((r:Nat):Int)-1).toNat d5[r]! =(Go.Sort.swp d5 r (r-1)).toList:=z2s (by omega) _
   have z1:(d5.setIfInBounds r d5[r-1]!).size=d5.size:=by simp
   have z2:(Go.Sort.swp d5 r (r-1)).size=d5.size:=Go.Sort.swp_size _ _ _
   have hc:=z1d d5[r]! d5[r-1]!
   rw[zAi hr.2] at hc
   have ihr':=ihr (r+1,Go.Sort.swp d5 r (r-1)) ⟨by simp only;omega,by simp only;omega,by simp only;omega,r4⟩ (by simp only;omega)
   simp only at ihr'
   obtain⟨hr1,hr2⟩:=hr
   generalize Go.Sort.swp d5 r (r-1)=d6 at *
   generalize (d5.setIfInBounds r d5[r-1]!)=d7 at *
   clear ihr ih' r4
   repeat' (first|(apply z0e;(first|refine z0k (z0m (u:=z1j d5[r]!) g0) rfl rfl ?_| refine z0k (z0m (u:=z1j d5[r-1]!) gc) rfl rfl ?_))|(apply z06;(refine z0k (z1m rfl (by simp only[zA4,zAe];omega)) rfl rfl ?_))|(apply z0v;(refine z0c (z1f z1g) rfl rfl ?_))|(apply z1l;(refine z0k (z1e z1g) rfl rfl ?_))|(apply z0p;(refine z4s hc ?_))|(apply z15;(first|refine z0g d5[r-1]! (by first|exact rfl|exact⟨_,rfl,rfl,rfl⟩) rfl rfl rfl rfl g0 rfl rfl rfl s1 ?_|refine z0g d5[r]! (by first|exact rfl|exact⟨_,rfl,rfl,rfl⟩) rfl rfl rfl rfl g1 rfl rfl rfl s2 ?_))|refine z05 ?_|refine fk (fun _=>?_) (fun _=>?_))
   all_goals try (exfalso;omega)
   all_goals exact z01 ihr' rfl rfl
 · rw[ze7 hr] at r4
   subst r4
   clear ihr
   by_cases hrb:r<b
   · skip
     have g0:d5.toList[((r:Nat):Int).toNat]? =some d5[r]!:=z2f (by omega) (by omega)
     have gc:d5.toList[(((r:Nat):Int)-1).toNat]? =some d5[r-1]!:=z2f (by omega) (by omega)
     have hc:=z1d d5[r]! d5[r-1]!
     rw[zAo (fun g=>hr ⟨hrb,g⟩)] at hc
     repeat' (first|(apply z0e;(first|refine z0k (z0m (u:=z1j d5[r]!) g0) rfl rfl ?_| refine z0k (z0m (u:=z1j d5[r-1]!) gc) rfl rfl ?_))|(apply z06;(refine z0k (z1m rfl (by simp only[zA4,zAe];omega)) rfl rfl ?_))|(apply z0v;(refine z0c (z1f z1g) rfl rfl ?_))|(apply z1l;(refine z0k (z1e z1g) rfl rfl ?_))|(apply z0p;(refine z4s hc ?_))|refine z05 ?_|refine fk (fun _=>?_) (fun _=>?_))
     all_goals try (exfalso;omega)
     all_goals exact z01 ih' rfl rfl
   · have hc:=z1d 0 0
     repeat' (first|refine z05 ?_|refine fk (fun _=>?_) (fun _=>?_))
     all_goals try (exfalso;omega)
     all_goals exact z01 ih' rfl rfl):p:=h
theorem zD3 {p:Prop} (h:p:=by
 refine z0l ?_
 refine z01 (z0x (fun r:Nat=>⟨168,[(0,.ref (0,1000)),(1,I .i64 (a:Nat)),(10,I .i64 (q:Nat)),(11,I .i64 (r:Nat)),(101000,.al (0,1000) (1,1000))],[(1000,rwA d')],upd H (0,1000) .gone⟩) (fun r=>r≤j∧a≤r∧Go.Sort.scanDown (pR d' a) d' q r=jr) (fun r=>r) ?_ j ⟨zAj _,i4,hjr⟩) rfl rfl
 clear hjr
 clear gq
 rintro r ⟨r1,r3,r2⟩ ihr
 by_cases hr:q≤r∧¬ d'[r]!<d'[a]!
 · have gq:d'.toList[((r:Nat):Int).toNat]? =some d'[r]!:=z2f (by omega) (by omega)
   have hc:=z1d d'[r]! d'[a]!
   rw[zAo hr.2] at hc
   rw[zou (by omega) hr.1 (by simp[Go.Sort.ltInt,hr.2])] at r2
   have ih':=ihr (r-1) ⟨by omega,by omega,r2⟩ (by omega)
   obtain⟨hq1,hq2⟩:=hr
   clear ihr
   repeat' (first|(apply z0e;(first|refine z0k (z0m (u:=z1j d'[r]!) gq) rfl rfl ?_| refine z0k (z0m (u:=z1j d'[a]!) ga) rfl rfl ?_))|(apply z06;(refine z0k (z1m rfl (by simp only[zA4,zAe];omega)) rfl rfl ?_))|(apply z0v;(refine z0c (z1e z1g) rfl rfl ?_))|(apply z0p;(refine z4s hc ?_))|refine z05 ?_|refine fk (fun _=>?_) (fun _=>?_)|(refine z16 (fun hg=>?_) (fun hg=>?_)<;> simp only[hg] <;> (try simp only[zA3,zA5,zA6,zA8] at hg)))
   all_goals try (exfalso;omega)
   all_goals rw[show ((r:Nat):Int)-1=(r-1:Nat) by omega]
   all_goals exact z01 ih' rfl rfl
 clear ihr
 rw[zb3 (fun g=>hr ⟨g.1,by have:=g.2;simpa[Go.Sort.ltInt] using this⟩)] at r2
 subst r2
 have hex2:q≤r→d'[r]!<d'[a]!:=fun g=>Decidable.byContradiction fun h=>hr ⟨g,h⟩
 by_cases hqr:r<q
 · rw[zAz hqr] at i6
   subst i6
   clear ih
   have g0:d'.toList[((r:Nat):Int).toNat]? =some d'[r]!:=z2f (by omega) (by omega)
   have gc:d'.toList[((a:Nat):Int).toNat]? =some d'[a]!:=z2f (by omega) (by omega)
   have s1:d'.toList.set ((r:Nat):Int).toNat d'[a]! =(d'.setIfInBounds r d'[a]!).toList:=z2s (by omega) _
   have g1:(d'.setIfInBounds r d'[a]!).toList[((a:Nat):Int).toNat]? =some (d'.setIfInBounds r d'[a]!)[a]!:=z2f (by omega) (by simp;omega)
   have s2:(d'.setIfInBounds r d'[a]!).toList.set ((a:Nat):Int).toNat d'[r]! =(Go.Sort.swp d' r a).toList:=z2s (by omega) _
   have z1:(d'.setIfInBounds r d'[a]!).size=d'.size:=by simp
   have z2:(Go.Sort.swp d' r a).size=d'.size:=Go.Sort.swp_size _ _ _
   have hc:=z1d 0 0
   skip
   generalize Go.Sort.swp d' r a=d2 at *
   generalize (d'.setIfInBounds r d'[a]!)=d1 at *
   repeat' (first|(apply z0e;(first|refine z0k (z0m (u:=z1j d'[a]!) ga) rfl rfl ?_| refine z0k (z0m (u:=z1j d'[r]!) g0) rfl rfl ?_))|(apply z06;(refine z0k (z1m rfl (by simp only[zA4,zAe];omega)) rfl rfl ?_))|(apply z15;(first|refine z0g d'[a]! (by first|exact rfl|exact⟨_,rfl,rfl,rfl⟩) rfl rfl rfl rfl g0 rfl rfl rfl s1 ?_|refine z0g d'[r]! (by first|exact rfl|exact⟨_,rfl,rfl,rfl⟩) rfl rfl rfl rfl g1 rfl rfl rfl s2 ?_))|refine z05 ?_|refine fk (fun _=>?_) (fun _=>?_)|(refine z16 (fun hg=>?_) (fun hg=>?_)<;> simp only[hg] <;> (try simp only[zA3,zA5,zA6,zA8] at hg)))
   all_goals try (exfalso;omega)
   all_goals refine z3e (raw:=rwA d2) 1000 0 1000 ?_
   all_goals refine z00 Tryz.func177 _ z0z ⟨rfl,?_⟩
   all_goals simp[z62,z1p]
 · rw[zAy hqr] at i6
   have g0:d'.toList[((q:Nat):Int).toNat]? =some d'[q]!:=z2f (by omega) (by omega)
   have gc:d'.toList[((r:Nat):Int).toNat]? =some d'[r]!:=z2f (by omega) (by omega)
   have s1:d'.toList.set ((q:Nat):Int).toNat d'[r]! =(d'.setIfInBounds q d'[r]!).toList:=z2s (by omega) _
   have g1:(d'.setIfInBounds q d'[r]!).toList[((r:Nat):Int).toNat]? =some (d'.setIfInBounds q d'[r]!)[r]!:=z2f (by omega) (by simp;omega)
   have s2:(d'.setIfInBounds q d'[r]!).toList.set ((r:Nat):Int).toNat d'[q]! =(Go.Sort.swp d' q r).toList:=z2s (by omega) _
   have z1:(d'.setIfInBounds q d'[r]!).size=d'.size:=by simp
   have z2:(Go.Sort.swp d' q r).size=d'.size:=Go.Sort.swp_size _ _ _
   have hc:=z1d d'[r]! d'[a]!
   rw[zAi (hex2 (by omega))] at hc
   have ih':=ih (q+1,r-1,Go.Sort.swp d' q r) ⟨by simp only;omega,by simp only;omega,by simp only;omega,by simp only;omega,by simp only;omega,i6⟩ (by simp only;omega)
   simp only at ih'
   generalize Go.Sort.swp d' q r=d2 at *
   generalize (d'.setIfInBounds q d'[r]!)=d1 at *
   clear ih i6
   repeat' (first|(apply z0e;(first|refine z0k (z0m (u:=z1j d'[a]!) ga) rfl rfl ?_| refine z0k (z0m (u:=z1j d'[q]!) g0) rfl rfl ?_| refine z0k (z0m (u:=z1j d'[r]!) gc) rfl rfl ?_))|(apply z06;(refine z0k (z1m rfl (by simp only[zA4,zAe];omega)) rfl rfl ?_))|(apply z0v;(first|refine z0c (z1e z1g) rfl rfl ?_| refine z0c (z1f z1g) rfl rfl ?_))|(apply z0p;(refine z4s hc ?_))|(apply z15;(first|refine z0g d'[r]! (by first|exact rfl|exact⟨_,rfl,rfl,rfl⟩) rfl rfl rfl rfl g0 rfl rfl rfl s1 ?_|refine z0g d'[q]! (by first|exact rfl|exact⟨_,rfl,rfl,rfl⟩) rfl rfl rfl rfl g1 rfl rfl rfl s2 ?_))|refine z05 ?_|refine fk (fun _=>?_) (fun _=>?_)|(refine z16 (fun hg=>?_) (fun hg=>?_)<;> simp only[hg] <;> (try simp only[zA3,zA5,zA6,zA8] at hg)))
   all_goals try (exfalso;omega)
   all_goals rw[show ((r:Nat):Int)-1=(r-1:Nat) by omega]
   all_goals exact z01 ih' rfl rfl):p:=h
theorem zD4 {p:Prop} (h:p:=by
 refine z0l ?_
 refine z01 (z0x (fun r:Nat=>⟨84,[(0,.ref (0,1000)),(1,I .i64 (a:Nat)),(9,I .i64 (q:Nat)),(10,I .i64 (r:Nat)),(101000,.al (0,1000) (1,1000))],[(1000,rwA d')],upd H (0,1000) .gone⟩) (fun r=>r≤j∧a≤r∧Go.Sort.scanDown (eR d' a) d' q r=jr) (fun r=>r) ?_ j ⟨zAj _,i4,hjr⟩) rfl rfl
 clear hjr
 clear gq
 rintro r ⟨r1,r3,r2⟩ ihr
 by_cases hr:q≤r∧d'[a]!<d'[r]!
 · have gq:d'.toList[((r:Nat):Int).toNat]? =some d'[r]!:=z2f (by omega) (by omega)
   have hc:=z1d d'[a]! d'[r]!
   rw[zAi hr.2] at hc
   rw[zou (by omega) hr.1 (by simp[Go.Sort.ltInt,hr.2])] at r2
   have ih':=ihr (r-1) ⟨by omega,by omega,r2⟩ (by omega)
   obtain⟨hq1,hq2⟩:=hr
   clear ih ihr
   repeat' (first|(apply z0e;(first|refine z0k (z0m (u:=z1j d'[r]!) gq) rfl rfl ?_| refine z0k (z0m (u:=z1j d'[a]!) ga) rfl rfl ?_))|(apply z06;(refine z0k (z1m rfl (by simp only[zA4,zAe];omega)) rfl rfl ?_))|(apply z0v;(refine z0c (z1e z1g) rfl rfl ?_))|(apply z0p;(refine z4s hc ?_))|refine z05 ?_|refine fk (fun _=>?_) (fun _=>?_)|(refine z16 (fun hg=>?_) (fun hg=>?_)<;> simp only[hg] <;> (try simp only[zA3,zA5,zA6,zA8] at hg)))
   all_goals try (exfalso;omega)
   all_goals rw[show ((r:Nat):Int)-1=(r-1:Nat) by omega]
   all_goals exact z01 ih' rfl rfl
 clear ihr
 rw[zb3 (fun g=>hr ⟨g.1,by have:=g.2;simpa[Go.Sort.ltInt] using this⟩)] at r2
 subst r2
 have hex2:q≤r→¬ d'[a]!<d'[r]!:=fun g h=>hr ⟨g,h⟩
 by_cases hqr:r<q
 · rw[zAz hqr] at i6
   subst i6
   have hc:=z1d 0 0
   clear ih
   repeat' (first|refine z05 ?_|refine fk (fun _=>?_) (fun _=>?_)|(refine z16 (fun hg=>?_) (fun hg=>?_)<;> simp only[hg] <;> (try simp only[zA3,zA5,zA6,zA8] at hg)))
   all_goals try (exfalso;omega)
   all_goals refine z3e (raw:=rwA d') 1000 0 1000 ?_
   all_goals refine z00 Tryz.func176 _ z11 ⟨rfl,?_⟩
   all_goals simp[z62,z1p]
 · rw[zAy hqr] at i6
   have g0:d'.toList[((q:Nat):Int).toNat]? =some d'[q]!:=z2f (by omega) (by omega)
   have gc:d'.toList[((r:Nat):Int).toNat]? =some d'[r]!:=z2f (by omega) (by omega)
   have s1:d'.toList.set ((q:Nat):Int).toNat d'[r]! =(d'.setIfInBounds q d'[r]!).toList:=z2s (by omega) _
   have g1:(d'.setIfInBounds q d'[r]!).toList[((r:Nat):Int).toNat]? =some (d'.setIfInBounds q d'[r]!)[r]!:=z2f (by omega) (by simp;omega)
   have s2:(d'.setIfInBounds q d'[r]!).toList.set ((r:Nat):Int).toNat d'[q]! =(Go.Sort.swp d' q r).toList:=z2s (by omega) _
   have z1:(d'.setIfInBounds q d'[r]!).size=d'.size:=by simp
   have z2:(Go.Sort.swp d' q r).size=d'.size:=Go.Sort.swp_size _ _ _
   have ih':=ih (q+1,r-1,Go.Sort.swp d' q r) ⟨by simp only;omega,by simp only;omega,by simp only;omega,by simp only;omega,by simp only;omega,i6⟩ (by simp only;omega)
   simp only at ih'
   have hc:=z1d d'[a]! d'[r]!
   rw[zAo (hex2 (by omega))] at hc
   generalize Go.Sort.swp d' q r=d2 at *
   generalize (d'.setIfInBounds q d'[r]!)=d1 at *
   clear ih i6
   repeat' (first|(apply z0e;(first|refine z0k (z0m (u:=z1j d'[a]!) ga) rfl rfl ?_| refine z0k (z0m (u:=z1j d'[q]!) g0) rfl rfl ?_| refine z0k (z0m (u:=z1j d'[r]!) gc) rfl rfl ?_))|(apply z06;(refine z0k (z1m rfl (by simp only[zA4,zAe];omega)) rfl rfl ?_))|(apply z0v;(first|refine z0c (z1e z1g) rfl rfl ?_| refine z0c (z1f z1g) rfl rfl ?_))|(apply z0p;(refine z4s hc ?_))|(apply z15;(first|refine z0g d'[r]! (by first|exact rfl|exact⟨_,rfl,rfl,rfl⟩) rfl rfl rfl rfl g0 rfl rfl rfl s1 ?_|refine z0g d'[q]! (by first|exact rfl|exact⟨_,rfl,rfl,rfl⟩) rfl rfl rfl rfl g1 rfl rfl rfl s2 ?_))|refine z05 ?_|refine fk (fun _=>?_) (fun _=>?_)|(refine z16 (fun hg=>?_) (fun hg=>?_)<;> simp only[hg] <;> (try simp only[zA3,zA5,zA6,zA8] at hg)))
   all_goals try (exfalso;omega)
   all_goals rw[show ((r:Nat):Int)-1=(r-1:Nat) by omega]
   all_goals exact z01 ih' rfl rfl):p:=h
theorem zD5 {p:Prop} (h:p:=by
 have hmm:((min e l.length:Nat):Int)=min (e:Int) (l.length:Int):=by omega
 have hse:=hs2 (e / 2) (min e l.length-e / 2) (by omega) i3 (by omega)
 rw[show ((min e l.length-e / 2:Nat):Int)=min (e:Int) (l.length:Int)-((e / 2:Nat):Int) by omega] at hse
 rw[show ((z5n l x:Nat):Int)=((e / 2:Nat):Int)+((z5n l x-e / 2:Nat):Int) by omega]
 have hge2:z5n l x-e / 2≤4096:=by omega
 clear ih hs2
 generalize z5n l x-e / 2=gg at *
 rw[← hdiv] at hse ⊢
 have hbk:∀ (n:Nat) (tm:List (Nat × PV)) (hp:Hp),Ab.look hp 2=some (.box [.d (inD l)])→Ab.look hp 6=some (.box [I .i64 ((e:Int) / 2)])→Ab.look hp 3=some (.box [I .i64 x])→BkE ⟨n,tm,hp,H⟩ [((0,2),.box [.d (inD l)]),((0,6),.box [I .i64 ((e:Int) / 2)]),((0,3),.box [I .i64 x])]:=fun n tm hp h2 h6 h3=>by simp[BkE,z3m,push,h2,h6,h3]
 by_cases hc2:e≤l.length
 · obtain⟨k2,hk2⟩:∃ r,l[e-1]? =some r:=⟨_,zA0 (by omega)⟩
   have hk3:l[(((e:Nat):Int)-1).toNat]? =some k2:=by rw[show (((e:Nat):Int)-1).toNat=e-1 by omega];exact hk2
   have hx2:¬ k2<x:=by
    first
    | (rw[hk] at hk2;rw[← Option.some.inj hk2];exact hx)
    | omega
   repeat' (first|(apply zpa;(refine zfg (by first|exact rfl|exact⟨_,rfl,rfl,rfl⟩) rfl rfl (by decide) ?_))|(apply z06;(refine z0k (z1n (ys:=l.map ic) rfl (zhv hk3)) rfl rfl ?_))|(apply z0v;(refine z0c (z8e (by omega) (by decide) z1g) rfl rfl ?_))|(apply z0p;(refine z9v hse (by first|exact rfl|exact⟨_,rfl,rfl,rfl⟩) rfl (hbk _ _ _ rfl rfl rfl) (by decide) ?_))|(apply z1w;(refine z0j z4e ?_))|refine z05 ?_|refine fk (fun _=>?_) (fun _=>?_)|(refine z16 (fun hg=>?_) (fun hg=>?_)<;> simp only[hg] <;> (try simp only[zA3,zA5,zA6,zA8] at hg)))
   all_goals try (exfalso;omega)
   all_goals exact z00 Tryz.func103 _ z11 ⟨rfl,rfl⟩
 · repeat' (first|(apply zpa;(refine zfg (by first|exact rfl|exact⟨_,rfl,rfl,rfl⟩) rfl rfl (by decide) ?_))|(apply z0v;(refine z0c (z8e (by omega) (by decide) z1g) rfl rfl ?_))|(apply z0p;(refine z9v hse (by first|exact rfl|exact⟨_,rfl,rfl,rfl⟩) rfl (hbk _ _ _ rfl rfl rfl) (by decide) ?_))|(apply z1w;(refine z0j z4e ?_))|refine z05 ?_|(refine z16 (fun hg=>?_) (fun hg=>?_)<;> simp only[hg] <;> (try simp only[zA3,zA5,zA6,zA8] at hg)))
   all_goals try (exfalso;omega)
   all_goals exact z00 Tryz.func103 _ z11 ⟨rfl,rfl⟩):p:=h
theorem zD6 {p:Prop} (h:p:=by
 intro k k1 ihk
 by_cases hk:k<L.length
 · obtain⟨u,hu⟩:∃ u,L[k]? =some u:=⟨_,zA0 hk⟩
   have hT:((L.take k).map okf).length=k:=by rw[zA4,zAm];omega
   have hall:((L.take k).map okf++L.drop k).length=L.length:=by rw[zAa,hT,List.length_drop];omega
   have hix:((L.take k).map okf++L.drop k)[((k:Nat):Int).toNat]? =some u:=by
    rw[zA9,zAg (by omega),hT,Nat.sub_self,List.getElem?_drop,Nat.add_zero];exact hu
   have hse:((L.take k).map okf++L.drop k).set ((k:Nat):Int).toNat (okf u)=(L.take (k+1)).map okf++L.drop (k+1):=by
    rw[zA9,List.set_append_right _ _ (by omega),hT,Nat.sub_self,drop_cons hu,List.set_cons_zero,z6k hu,List.map_append,zAl];rfl
   have hmap:(((L.take k).map okf++L.drop k).map uqc).length=L.length:=by rw[zA4];exact hall
   have ihk':=ihk (k+1) (by omega) (by omega)
   obtain⟨u1,u2,u3,u4⟩:=u
   by_cases hbad:u1=65533
   · have hok:okf (u1,u2,u3,u4)=(u1,u2,u3,decide (u3=3)):=by simp[okf,hbad]
     rw[hok] at hse
     repeat' (first|(apply z0i;(first|refine z0c (z0m (u:=z1j u1) hix) rfl rfl ?_| refine z0c (z0m (u:=z4n u3) hix) rfl rfl ?_))|(apply z09;(refine z0c (z8r rfl) rfl rfl ?_))|(apply z0o;(refine zdw ((u1,u2,u3,decide (u3=3)):Uq) hix hse ?_))|refine z05 ?_|refine fk (fun _=>?_) (fun _=>?_))
     all_goals try (exfalso;omega)
     all_goals exact z01 ihk' rfl rfl
   · have hok:okf (u1,u2,u3,u4)=(u1,u2,u3,true):=by simp[okf,hbad]
     rw[hok] at hse
     repeat' (first|(apply z0i;(first|refine z0c (z0m (u:=z1j u1) hix) rfl rfl ?_| refine z0c (z0m (u:=z4n u3) hix) rfl rfl ?_))|(apply z09;(refine z0c (z8r rfl) rfl rfl ?_))|(apply z0o;(refine zdw ((u1,u2,u3,true):Uq) hix hse ?_))|refine z05 ?_|refine fk (fun _=>?_) (fun _=>?_))
     all_goals try (exfalso;omega)
     all_goals exact z01 ihk' rfl rfl
 · obtain rfl:k=L.length:=by omega
   rw[List.take_length,zAs,List.append_nil]
   repeat' (first|refine z05 ?_|refine fk (fun _=>?_) (fun _=>?_))
   all_goals try (exfalso;omega)
   refine z13 1000 rfl ?_
   exact z00 Tryz.func49 _ z11 ⟨rfl,rfl⟩):p:=h
theorem zD7 {p:Prop} (h:p:=by
 all_goals try (exfalso;omega)
 all_goals ((repeat rw[z0a]);first|exact z00 Tryz.func196 _ (z04 rfl rfl rfl rfl rfl rfl rfl) ⟨rfl,rfl⟩|exact z00 Tryz.func196 _ z0z ⟨rfl,rfl⟩|exact z00 Tryz.func196 _ z11 ⟨rfl,rfl⟩|exact z00 Tryz.func196 _ z1h ⟨rfl,rfl⟩)):p:=h
theorem zD8 {p:Prop} (h:p:=by
 simp only[zbv,Rx.op,Rx.mn,Rx.mx,Rx.ks,List.map_cons,List.map_nil,z2k] at ih'
 repeat' (first|(apply z0i;(refine z2r (z02 _ (e0,X) _) ?_))|(apply z03;(refine z0s hn (z07 (m:=(e0+1,X)) (z02 _ (e0,X) _) (bkT (by repeat (first|exact hT|refine HT.upd ?_ hX0 hX1)))) ?_))|(apply z0o;(refine z1r (raw':=pbx s ((j+1:Nat):Int) 0 0) (z02 _ (e0,X) _) ?_))|refine z05 ?_|fail)
 all_goals try (exfalso;omega)
 all_goals ((repeat rw[z0a]);exact z01 ih' rfl rfl)):p:=h
theorem zD9 {p:Prop} (h:p:=by
 rintro k ⟨i1,i2⟩ ih
 by_cases hlt:k<W.length
 · have hw:=z4l hlt
   by_cases hc:ltS (wd W k) x=true
   · have ih':=ih (k+1) ⟨by omega,fun i hi=>by
      by_cases e:i=k
      · rw[e];exact hc
      · exact i2 i (by omega)⟩ (by omega)
     have hc':Op.bytesLess (wd W k).toList x.toList=true:=by rw[ze9];exact hc
     repeat' (first|(apply z09;(refine z0c (z1n (ys:=W.map stc) rfl (idx hw)) rfl rfl ?_))|(apply z06;(refine z0k (z1n (ys:=W.map stc) rfl (idx hw)) rfl rfl ?_))|refine z05 ?_|refine fk (fun _=>?_) (fun _=>?_)|(refine z16 (fun hg=>?_) (fun hg=>?_)<;> simp only[hg] <;> (try simp only[zA3,zA5,zA6,zA8] at hg)))
     all_goals try (exfalso;first|omega|(simp[hc'] at *;done))
     all_goals exact z01 ih' rfl rfl
   · have hlo:loS W x=k:=zrj h x (by omega) i2 (fun _=>by simpa using hc)
     have hc':Op.bytesLess (wd W k).toList x.toList=false:=by rw[ze9];simpa using hc
     have hf:zk4 W x=decide (wd W k=x):=by rw[zk4,hlo];simp[hlt]
     rw[hf,hlo]
     clear ih
     repeat' (first|(apply z09;(refine z0c (z1n (ys:=W.map stc) rfl (idx hw)) rfl rfl ?_))|(apply z06;(refine z0k (z1n (ys:=W.map stc) rfl (idx hw)) rfl rfl ?_))|refine z05 ?_|refine fk (fun _=>?_) (fun _=>?_)|(refine z16 (fun hg=>?_) (fun hg=>?_)<;> simp only[hg] <;> (try simp only[zA3,zA5,zA6,zA8] at hg)))
     all_goals try (exfalso;first|omega|(simp[hc'] at *;done))
     all_goals exact z00 Tryz.func81 _ z0z ⟨rfl,rfl⟩
 · obtain rfl:k=W.length:=by omega
   have hlo:loS W x=W.length:=zrj h x (by omega) i2 (fun h=>absurd h (Nat.lt_irrefl _))
   have hf:zk4 W x=false:=by rw[zk4,hlo];simp
   rw[hf,hlo]
   clear ih
   repeat' (first|refine z05 ?_|refine fk (fun _=>?_) (fun _=>?_)|(refine z16 (fun hg=>?_) (fun hg=>?_)<;> simp only[hg] <;> (try simp only[zA3,zA5,zA6,zA8] at hg)))
   all_goals try (exfalso;first|omega|(simp at *;done))
   all_goals exact z00 Tryz.func81 _ z0z ⟨rfl,rfl⟩):p:=h
theorem zD10 {p:Prop} (h:p:=by
 repeat' (first|(apply z0i;(refine z2r hX ?_))|(apply z03;(first|refine z1v hch hX (bkT (by repeat (first|exact hT|refine HT.upd ?_ hX0 hX1))) ?_| refine z2x hf rfl hX (by decide) ?_|refine z0s hn (z07 (m:=(e0+1,X)) hX (bkT (by repeat (first|exact hT|refine HT.upd ?_ hX0 hX1)))) ?_| refine z1i hcr ?_))|refine z05 ?_|refine fk (fun _=>?_) (fun _=>?_))
 all_goals try (exfalso;omega)
 all_goals ((repeat rw[z0a]);first|exact z00 Tryz.func214 _ (z04 rfl rfl rfl rfl rfl rfl rfl) ⟨rfl,rfl⟩|exact z00 Tryz.func214 _ z0z ⟨rfl,rfl⟩|exact z00 Tryz.func214 _ z11 ⟨rfl,rfl⟩|exact z00 Tryz.func214 _ z1h ⟨rfl,rfl⟩)):p:=h
theorem zD11 {p:Prop} (h:p:=by
 rw[zAz hqr] at hR
 have g0:d'.toList[((r:Nat):Int).toNat]? =some d'[r]!:=z2f (by omega) (by omega)
 have gc:d'.toList[((a:Nat):Int).toNat]? =some d'[a]!:=z2f (by omega) (by omega)
 have s1:d'.toList.set ((r:Nat):Int).toNat d'[a]! =(d'.setIfInBounds r d'[a]!).toList:=z2s (by omega) _
 have g1:(d'.setIfInBounds r d'[a]!).toList[((a:Nat):Int).toNat]? =some (d'.setIfInBounds r d'[a]!)[a]!:=z2f (by omega) (by simp;omega)
 have s2:(d'.setIfInBounds r d'[a]!).toList.set ((a:Nat):Int).toNat d'[r]! =(Go.Sort.swp d' r a).toList:=z2s (by omega) _
 have z1:(d'.setIfInBounds r d'[a]!).size=d'.size:=by simp
 have z2:(Go.Sort.swp d' r a).size=d'.size:=Go.Sort.swp_size _ _ _
 have hc:=z1d 0 0
 subst hR
 generalize Go.Sort.swp d' r a=d2 at *
 generalize (d'.setIfInBounds r d'[a]!)=d1 at *
 repeat' (first|(apply z0e;(first|refine z0k (z0m (u:=z1j d'[a]!) ga) rfl rfl ?_| refine z0k (z0m (u:=z1j d'[r]!) g0) rfl rfl ?_))|(apply z06;(refine z0k (z1m rfl (by simp only[zA4,zAe];omega)) rfl rfl ?_))|(apply z15;(first|refine z0g d'[a]! (by first|exact rfl|exact⟨_,rfl,rfl,rfl⟩) rfl rfl rfl rfl g0 rfl rfl rfl s1 ?_|refine z0g d'[r]! (by first|exact rfl|exact⟨_,rfl,rfl,rfl⟩) rfl rfl rfl rfl g1 rfl rfl rfl s2 ?_))|refine z05 ?_|refine fk (fun _=>?_) (fun _=>?_)|(refine z16 (fun hg=>?_) (fun hg=>?_)<;> simp only[hg] <;> (try simp only[zA3,zA5,zA6,zA8] at hg)))
 all_goals try (exfalso;omega)
 all_goals refine z3e (raw:=rwA d2) 1000 0 1000 ?_
 all_goals refine z00 Tryz.func177 _ z0z ⟨rfl,?_⟩
 all_goals simp[z62,z1p]):p:=h
theorem zD12 {p:Prop} (h:p:=by
 all_goals try (exfalso;omega)
 all_goals exact z01 ih' rfl rfl):p:=h
theorem zD13 {p:Prop} (h:p:=by
 rw[zAi hgd.1,zAi hgd.2.1,zAi hgd.2.2,Bool.true_and,Bool.true_and,Bool.true_and] at i3
 rcases i2 with ⟨rfl,rfl⟩|⟨hi,p,hp,rfl,hp0,hp1⟩
 · repeat' (first|(apply z09;(refine z0c (z1n (ys:=l.map rgc) rfl (idx hr)) rfl rfl ?_))|refine z05 ?_|refine fk (fun _=>?_) (fun _=>?_)|(refine z16 (fun hg=>?_) (fun hg=>?_)<;> simp only[hg] <;> (try simp only[zA3,zA5,zA6,zA8] at hg)))
   all_goals try (exfalso;omega)
   all_goals exact z01 (ih (1,r.2+2) ⟨by simp only;omega,.inr ⟨by simp,r,hr,rfl,by omega,hgd.2.2⟩,i3⟩ (by simp only;omega)) rfl rfl
 · have hp':l[((i:Int)-1).toNat]? =some p:=by rw[← hp];congr 1;omega
   repeat' (first|(apply z09;(refine z0c (z1n (ys:=l.map rgc) rfl (idx hr)) rfl rfl ?_))|(apply z06;(refine z0k (z1n (ys:=l.map rgc) rfl (zhv hp')) rfl rfl ?_))|(apply z1l;(refine z0k (z1f (zab (by omega) (by omega))) rfl rfl ?_))|refine z05 ?_|refine fk (fun _=>?_) (fun _=>?_)|(refine z16 (fun hg=>?_) (fun hg=>?_)<;> simp only[hg] <;> (try simp only[zA3,zA5,zA6,zA8] at hg)))
   all_goals try (exfalso;omega)
   all_goals exact z01 (ih (i+1,r.2+2) ⟨by simp only;omega,.inr ⟨by simp,r,by simpa using hr,rfl,by omega,hgd.2.2⟩,i3⟩ (by simp only;omega)) rfl rfl):p:=h
theorem zD14 {p:Prop} (h:p:=by
 skip
 repeat' (first|(apply z0v;(first|refine z0c (z1f z1g) rfl rfl ?_| refine z0c (z1e z1g) rfl rfl ?_| refine z0c (z7b z1g) rfl rfl ?_| refine z0c (z8e (by omega) (by decide) z1g) rfl rfl ?_))|(apply z03;(first|refine z2u e rfl rfl rfl (by decide) ?_|refine z2u e3 rfl rfl rfl (by decide) ?_|refine z2u e2 rfl rfl rfl (by decide) ?_|refine z2u e1 rfl rfl rfl (by decide) ?_))|(apply z1w;((refine z0j z4e ?_;refine zgu 9 900 rfl rfl ?_)))|refine z05 ?_|refine fk (fun _=>?_) (fun _=>?_))
 all_goals try (exfalso;omega)
 all_goals refine z3e (raw:=rwA d) 1000 0 1000 ?_
 all_goals exact z00 Tryz.func172 _ z0z ⟨rfl,zim hX⟩):p:=h
theorem zD15 {p:Prop} (h:p:=by
 have he:Ext w own { w with heap:=w.heap.setIfInBounds r (.map cur'.toArray clock') } own:=by
  refine⟨rfl,rfl,rfl,by simp,fun b hb hno=>?_,fun _ _ h=>h⟩
  have:b≠r:=fun e=>hno (e▸ho)
  simp[Ne.symm this]
 have hbr:BR β { w with heap:=w.heap.setIfInBounds r (.map cur'.toArray clock') } own (β (0,ms)) (atF (0,ms) (.mp ((zbd q a v).map fun p=>(g p.1,p.2)))):=by
  rw[hβ]
  refine .mp r clock' _ cur' ho (by simp[hlt]) (by simpa using hl') (fun j x m hx hm=>?_) hbn' hc'
  obtain⟨y,hy,rfl⟩:=znl hx
  obtain⟨e1,e2,e3⟩:=hd' j y m hy hm
  exact⟨e1,e2,e3.mono he⟩
 have hheap:=hr.heap.change (raw:=.mp ((zbd q a v).map fun p=>(g p.1,p.2))) hlook rfl he (by simp) (fun g' hg'=>by
  have:g'≠r:=fun e=>hg' (by rw[hβ,e];rfl)
  simp[Ne.symm this]) hbr
 refine⟨.skip,undef,_,β,own,?_,.inr ⟨rfl,rfl⟩,?_,he,rfl⟩
 · cases insert <;> simp only[execOp,ex',ey,hzv,Bool.false_eq_true,if_false,if_true] <;> simp[hrun]
 · refine⟨?_,hr.defers,fun t q hq=>?_,?_⟩
   · rw[(z43 s (0,ms) _).2.1];exact hr.size
   · rw[(z43 s (0,ms) _).1] at hq;exact(hr.tm t q hq).mono he
   · rw[z2m];exact hheap):p:=h
theorem zD16 {p:Prop} (h:p:=by
 repeat' (first|(apply z0i;(first|refine z2r (z02 _ (e0,X) _) ?_| refine z2r hX ?_))|(apply z0e;(refine z4c (z02 _ (e0,X) _) ?_))|(apply z0v;(refine z0c (z1e (zab (by omega) (by omega))) rfl rfl ?_))|(apply z03;(first|refine z2x hf2 rfl (z02 _ (e0,X) _) (by decide) ?_|refine z0s hn1 (z07 (m:=(e0+1,X)) (z02 _ (e0,X) _) (bkT (by repeat (first|exact hT|refine HT.upd ?_ hX0 hX1)))) ?_| refine z0s hn (z07 (m:=(e0+1,X)) hX (bkT (by repeat (first|exact hT|refine HT.upd ?_ hX0 hX1)))) ?_| refine z1i hd ?_| refine z1i hd1 ?_))|(apply z0o;(refine z1r (raw':=pbx s ((i+1:Nat):Int) 0 0) hX ?_))|refine z05 ?_|refine fk (fun _=>?_) (fun _=>?_)|(refine z16 (fun hg=>?_) (fun hg=>?_)<;> simp only[hg] <;> (try simp only[zA3,zA5,zA6,zA8] at hg)))
 all_goals try (exfalso;omega)
 all_goals ((repeat rw[z0a]);refine z4r wkP ?_;first|exact z00 Tryz.func211 _ (z04 rfl rfl rfl rfl rfl rfl rfl) ⟨rfl,rfl⟩|exact z00 Tryz.func211 _ z0z ⟨rfl,rfl⟩|exact z00 Tryz.func211 _ z11 ⟨rfl,rfl⟩|exact z00 Tryz.func211 _ z1h ⟨rfl,rfl⟩)):p:=h
theorem zD17 {p:Prop} (h:p:=by
 repeat' (first|(apply z0i;(first|refine z2r (z02 _ (e0,X) _) ?_| refine z2r hX ?_))|(apply z0e;(refine z4c (z02 _ (e0,X) _) ?_))|(apply z0v;(refine z0c (z1e (zab (by omega) (by omega))) rfl rfl ?_))|(apply z03;(first|refine z2x hf2 rfl (z02 _ (e0,X) _) (by decide) ?_|refine z0s hn1 (z07 (m:=(e0+1,X)) (z02 _ (e0,X) _) (bkT (by repeat (first|exact hT|refine HT.upd ?_ hX0 hX1)))) ?_| refine z0s hn (z07 (m:=(e0+1,X)) hX (bkT (by repeat (first|exact hT|refine HT.upd ?_ hX0 hX1)))) ?_| refine z1i hd ?_| refine z1i hd1 ?_))|(apply z0o;(refine z1r (raw':=pbx s ((i+1:Nat):Int) 0 0) hX ?_))|refine z05 ?_|refine fk (fun _=>?_) (fun _=>?_)|(refine z16 (fun hg=>?_) (fun hg=>?_)<;> simp only[hg] <;> (try simp only[zA3,zA5,zA6,zA8] at hg)))
 all_goals try (exfalso;omega)
 all_goals ((repeat rw[z0a]);first|exact z00 Tryz.func211 _ (z04 rfl rfl rfl rfl rfl rfl rfl) ⟨rfl,rfl⟩|exact z00 Tryz.func211 _ z0z ⟨rfl,rfl⟩|exact z00 Tryz.func211 _ z11 ⟨rfl,rfl⟩|exact z00 Tryz.func211 _ z1h ⟨rfl,rfl⟩)):p:=h
theorem zD18 {p:Prop} (h:p:=by
 generalize hv:a.tmps.getD t undef=v at hp
 cases hp with
 | ptr _ _ g' hg' =>
  rw[hβ] at hg';simp at hg';subst hg'
  have hlen:cur.length=ti.size:=by rw[← hl,zA4,hs]
  have:=z19 (P:=P) hty g 0 cur w hlen (fun j v hj=>by
   rw[Nat.zero_add,cell_of_row w g j _ tt (0,0) hg];simpa using hj)
  rcases this with h'|h'
  · have hv2:a.tmps[t]?.getD undef=.pointer (some ⟨g,0,none⟩):=by rw[← Array.getD_eq_getD_getElem?];exact hv
    simp[results,h,hv2,asAddr,h',ha]
  · rw[ha] at h';cases h'.1):p:=h
theorem zD19 {p:Prop} (h:p:=by
 have z1:(d'.setIfInBounds i d'[y]!).size=d'.size:=by simp
 generalize Go.Sort.swp d' i y=d2 at *
 generalize (d'.setIfInBounds i d'[y]!)=d1 at *
 repeat' (first|(apply z0e;(first|refine z0k (z0m (u:=z1j d'[i]!) g0) rfl rfl ?_| refine z0k (z0m (u:=z1j d'[y]!) gc) rfl rfl ?_))|(apply z06;(refine z0k (z1m rfl (by simp only[zA4,zAe];omega)) rfl rfl ?_))|(apply z0v;(first|refine z0c (z8e (by omega) (by decide) z1g) rfl rfl ?_| refine z0c (z7b z1g) rfl rfl ?_| refine z0c z4k rfl rfl ?_| refine z0c (z1e (zpb (by omega) (by omega))) rfl rfl ?_| refine z0c (z1e z1g) rfl rfl ?_| refine z0c (z1f z1g) rfl rfl ?_))|(apply z1l;(refine z0k (z1f z1g) rfl rfl ?_))|(apply z03;(refine z3v hx ?_))|(apply z15;(first|refine z0g d'[y]! (by first|exact rfl|exact⟨_,rfl,rfl,rfl⟩) rfl rfl rfl rfl g0 rfl rfl rfl s1 ?_|refine z0g d'[i]! (by first|exact rfl|exact⟨_,rfl,rfl,rfl⟩) rfl rfl rfl rfl g1 rfl rfl rfl s2 ?_))|(apply z4q;(refine z0c (z8j rfl rfl z1g) rfl rfl ?_))|refine z05 ?_|refine fk (fun _=>?_) (fun _=>?_))
 all_goals exact zD12):p:=h
theorem zD20 {p:Prop} (h:p:=by
 all_goals try (exfalso;omega)
 all_goals refine z2t 601 603 rfl (z0b (z0b (z0b hG1 (by simp)) (by simp)) (by simp)) (Or.inl rfl) rfl (Quiet.upd (Quiet.upd (Quiet.upd hQ1 rfl) rfl) rfl) ?_
 all_goals refine z2t 602 604 rfl (z0b (z0b (z0b (z0b hG2 (by simp)) (by simp)) (by simp)) (by simp)) (Or.inr rfl) rfl (Quiet.upd (Quiet.upd (Quiet.upd (Quiet.upd hQ2 rfl) rfl) rfl) rfl) ?_
 all_goals refine z3e (raw:=bbx 603 604) 600 0 600 ?_
 all_goals refine z00 Tryz.func132 _ (z34 rfl rfl rfl rfl rfl rfl) ⟨rfl,rfl⟩):p:=h
theorem zD21 {p:Prop} (h:p:=by
 all_goals try (exfalso;omega)
 all_goals ((repeat rw[z0a]);first|exact z00 Tryz.func197 _ (z04 rfl rfl rfl rfl rfl rfl rfl) ⟨rfl,rfl⟩|exact z00 Tryz.func197 _ z0z ⟨rfl,rfl⟩|exact z00 Tryz.func197 _ z11 ⟨rfl,rfl⟩|exact z00 Tryz.func197 _ z1h ⟨rfl,rfl⟩)):p:=h
theorem zD22 {p:Prop} (h:p:=by
 all_goals try (exfalso;omega)
 all_goals ((repeat rw[z0a]);first|exact z00 Tryz.func164 _ (z04 rfl rfl rfl rfl rfl rfl rfl) ⟨rfl,rfl⟩|exact z00 Tryz.func164 _ z0z ⟨rfl,rfl⟩|exact z00 Tryz.func164 _ z11 ⟨rfl,rfl⟩|exact z00 Tryz.func164 _ z1h ⟨rfl,rfl⟩)):p:=h
theorem zD23 {p:Prop} (h:p:=by
 all_goals try (exfalso;omega)
 all_goals ((repeat rw[z0a]);first|exact z00 Tryz.func87 _ (z04 rfl rfl rfl rfl rfl rfl rfl) ⟨rfl,rfl⟩|exact z00 Tryz.func87 _ z0z ⟨rfl,rfl⟩|exact z00 Tryz.func87 _ z11 ⟨rfl,rfl⟩|exact z00 Tryz.func87 _ z1h ⟨rfl,rfl⟩)):p:=h
theorem zD24 {p:Prop} (h:p:=by
 all_goals try (exfalso;omega)
 all_goals refine z2t 601 603 rfl (z0b (z0b (z0b hG1 (by simp)) (by simp)) (by simp)) (Or.inl rfl) rfl (Quiet.upd (Quiet.upd (Quiet.upd hQ1 rfl) rfl) rfl) ?_
 all_goals refine z2t 602 604 rfl (z0b (z0b (z0b (z0b hG2 (by simp)) (by simp)) (by simp)) (by simp)) (Or.inr rfl) rfl (Quiet.upd (Quiet.upd (Quiet.upd (Quiet.upd hQ2 rfl) rfl) rfl) rfl) ?_
 all_goals refine z3e (raw:=bbx 603 604) 600 0 600 ?_
 all_goals refine z00 Tryz.func92 _ (z34 rfl rfl rfl rfl rfl rfl) ⟨rfl,rfl⟩):p:=h
theorem zD25 {p:Prop} (h:p:=by
 have gq:d'.toList[((r:Nat):Int).toNat]? =some d'[r]!:=z2f (by omega) (by omega)
 have hc:=z1d d'[r]! d'[a]!
 rw[zAo hr.2] at hc
 rw[zou (by omega) hr.1 (by simp[Go.Sort.ltInt,hr.2])] at r2
 have ih':=ihr (r-1) ⟨by omega,by omega,r2⟩ (by omega)
 obtain⟨hq1,hq2⟩:=hr
 clear ihr
 repeat' (first|(apply z0e;(first|refine z0k (z0m (u:=z1j d'[r]!) gq) rfl rfl ?_| refine z0k (z0m (u:=z1j d'[a]!) ga) rfl rfl ?_))|(apply z06;(refine z0k (z1m rfl (by simp only[zA4,zAe];omega)) rfl rfl ?_))|(apply z0v;(refine z0c (z1e z1g) rfl rfl ?_))|(apply z0p;(refine z4s hc ?_))|refine z05 ?_|refine fk (fun _=>?_) (fun _=>?_)|(refine z16 (fun hg=>?_) (fun hg=>?_)<;> simp only[hg] <;> (try simp only[zA3,zA5,zA6,zA8] at hg)))
 all_goals try (exfalso;omega)
 all_goals rw[show ((r:Nat):Int)-1=(r-1:Nat) by omega]
 all_goals exact z01 ih' rfl rfl):p:=h
theorem zD26 {p:Prop} (h:p:=by
 repeat' (first|(apply z0e;(first|refine z0k (z0m (u:=z1j d'[q]!) gq) rfl rfl ?_| refine z0k (z0m (u:=z1j d'[a]!) ga) rfl rfl ?_))|(apply z06;(refine z0k (z1m rfl (by simp only[zA4,zAe];omega)) rfl rfl ?_))|(apply z0v;(refine z0c (z1f z1g) rfl rfl ?_))|(apply z0p;(refine z4s hc ?_))|refine z05 ?_|(refine z16 (fun hg=>?_) (fun hg=>?_)<;> simp only[hg] <;> (try simp only[zA3,zA5,zA6,zA8] at hg)))
 all_goals exact zD12):p:=h
theorem zD27 {p:Prop} (h:p:=by
 rw[← i2]
 clear ih i2
 repeat' (first|(apply z0e;(first|refine z0k (z0m (u:=z1j d'[F+(2*r+1)]!) ga) rfl rfl ?_| refine z0k (z0m (u:=z1j d'[F+(2*r+2)]!) gb) rfl rfl ?_| refine z0k (z0m (u:=z1j d'[F+r]!) g0) rfl rfl ?_))|(apply z06;(refine z0k (z1m rfl (by simp only[zA4,zAe];omega)) rfl rfl ?_))|(apply z0v;(first|refine z0c (z7b z1g) rfl rfl ?_| refine z0c (z1f z1g) rfl rfl ?_))|(apply z1l;(refine z0k (z1f z1g) rfl rfl ?_))|(apply z0p;(first|refine z4s hc1 ?_| refine z4s hc0 ?_))|refine z05 ?_|refine fk (fun _=>?_) (fun _=>?_)|(refine z16 (fun hg=>?_) (fun hg=>?_)<;> simp only[hg] <;> (try simp only[zA3,zA5,zA6,zA8] at hg)))
 all_goals try (exfalso;omega)
 all_goals refine z3e (raw:=rwA d') 1000 0 1000 ?_
 all_goals refine z00 Tryz.func199 _ (z2q rfl) ⟨rfl,?_⟩
 all_goals simp[z62,z1p]):p:=h
theorem zD28 {p:Prop} (h:p:=by
 refine⟨fun m c hm=>?_,fun m1 m2 c1 c2 e1 e2 l1 l2 hn g hg'=>?_,h2.lt⟩
 · cases hc:c.live with
   | false=>cases c <;> first|(simp[Blk.live] at hc;done)|exact .gone _
   | true =>
    rcases key m c hm hc with ⟨rfl,rfl⟩|⟨_,_,h3⟩
    · rw[hsame];exact h2.blk _ _ hrow
    · exact h2.blk m c h3
 · rcases key m1 c1 e1 l1 with ⟨rfl,rfl⟩|⟨n1,n1',h3⟩
   · rcases key m2 c2 e2 l2 with ⟨rfl,rfl⟩|⟨n2,n2',h4⟩
     · exact absurd rfl hn
     · rw[hsame] at hg'
       exact h2.inj (0,y) m2 _ c2 hrow h4 l1 l2 (Ne.symm n2') g hg'
   · rcases key m2 c2 e2 l2 with ⟨rfl,rfl⟩|⟨n2,n2',h4⟩
     · rw[hsame]
       exact h2.inj m1 (0,y) c1 _ h3 hrow l1 l2 n1' g hg'
     · exact h2.inj m1 m2 c1 c2 h3 h4 l1 l2 hn g hg'):p:=h
theorem zD29 {p:Prop} (h:p:=by
 rw[zme] at ho
 rcases hok with h92|hcf
 · rw[h92] at hn
   repeat' (first|(apply z03;(first|refine z1v hch hX (bkT (by repeat (first|exact hT|refine HT.upd ?_ hX0 hX1))) ?_| refine z0s hn (z07 (m:=(e0+1,X)) hX (bkT (by repeat (first|exact hT|refine HT.upd ?_ hX0 hX1)))) ?_| refine z1i ho ?_))|refine z05 ?_|fail)
   all_goals exact zD7
 · rw[hcf] at hcr
   repeat' (first|(apply z0i;(refine z2r hX ?_))|(apply z03;(first|refine z1v hch hX (bkT (by repeat (first|exact hT|refine HT.upd ?_ hX0 hX1))) ?_| refine z0s hn (z07 (m:=(e0+1,X)) hX (bkT (by repeat (first|exact hT|refine HT.upd ?_ hX0 hX1)))) ?_| refine z1i hcr ?_| refine z1i ho ?_))|refine z05 ?_|refine fk (fun _=>?_) (fun _=>?_))
   all_goals exact zD7):p:=h
theorem zD30 {p:Prop} (h:p:=by
 have hX:H 0 1000=some (rwA d):=hH ((0,1000),rwA d) (by simp)
 refine z08 Tryz.func172 (by kernel_rfl) rfl (by simp) ?_
 dsimp only[Tryz.f172]
 refine z1k 1000 0 1000 hX rfl rfl ?_
 repeat' (first|(apply z0v;(first|refine z0c (z1f z1g) rfl rfl ?_| refine z0c (z1e z1g) rfl rfl ?_| refine z0c (z7b z1g) rfl rfl ?_| refine z0c (z8e (by omega) (by decide) z1g) rfl rfl ?_))|(apply z03;(refine z2u e rfl rfl rfl (by decide) ?_))|(apply z1w;((refine z0j z4e ?_;refine zgu 9 900 rfl rfl ?_)))|refine z05 ?_|refine fk (fun _=>?_) (fun _=>?_))
 all_goals try (exfalso;omega)
 all_goals refine z3e (raw:=rwA d) 1000 0 1000 ?_
 all_goals exact z00 Tryz.func172 _ z0z ⟨rfl,zim hX⟩):p:=h
theorem zD31 {p:Prop} (h:p:=by
 have hdone:=h rest hrest β' own' _ w' hrep' b hb hk (by rw[hout];exact hn) cs
 rw[hout] at hdone
 refine(hdone.ext hext).of_steps (.one (step_lone_go ?_))
 have hgo:=stepGR_op (P:=P) (b:=b) (a:={ a with defers:=b.defers }) (k:=k) (cs:=cs) (w:=w) (rest:=rest) ho hw
 have hfin:∀ v,(am b a (.inRegion all (i::rest)::k)).finish v=am b (a.put o.dst v) (.inRegion all rest::k):=by
  intro v;rw[z6b,ho];rfl
 have hsem:=z6m (ro:=b.roundOf) hrun (by rcases hnx with rfl|⟨rfl,_⟩ <;> simp)
 rw[← z8b b a] at hsem
 rw[show am b a (.inRegion all (i::rest)::k)=b.atR { a with defers:=b.defers } (.inRegion all (i::rest)::k) from rfl] at hfin ⊢
 rw[hgo,← hfin]
 rcases hnx with rfl|⟨rfl,rfl⟩ <;> simp[stepG.apply,hsem]):p:=h
theorem zD32 {p:Prop} (h:p:=by
 all_goals refine z5l (raw:=.glob 1 τ.o0) 700 0 700 (z0b (z1a _ (0,700) _) (by simp)) ?_
 all_goals refine z5l (raw:=.glob 2 τ.o1) 701 0 701 (z0b (z1a _ (0,701) _) (by simp)) ?_
 all_goals exact z00 Tryz.func9 _ z11 ⟨rfl,z7n hX0 hX1⟩):p:=h
theorem zD33 {p:Prop} (h:p:=by
 rw[← hto] at c2
 repeat' (first|(apply z4v;(refine z0k (z9p rfl (by omega) (by omega)) rfl rfl ?_))|(apply z03;(refine z7u hst1 rfl (z07 (m:=(0,20)) rfl z5h) (by decide) ?_))|(apply z4q;(refine z0c (zcq hes0 rfl rfl) rfl rfl ?_))|refine z05 ?_|refine fk (fun _=>?_) (fun _=>?_)|(apply z1b;(refine z1s hlt2 rfl rfl (by decide) ?_))|(refine z16 (fun hg=>?_) (fun hg=>?_)<;> simp only[hg] <;> (try simp only[zA3,zA5,zA6,zA8] at hg)))
 all_goals try (exfalso;omega)
 all_goals try (exfalso;simp_all;done)
 all_goals exact z01 ih2 rfl rfl):p:=h
theorem zD34 {p:Prop} (h:p:=by
 simp only[zbv,Rx.op,Rx.mn,Rx.mx,Rx.ks,List.map_cons,List.map_nil,z2k] at ih'
 repeat' (first|(apply z0i;(refine z2r (z02 _ (e0,X) _) ?_))|(apply z03;(first|refine z1v hb (z02 _ (e0,X) _) (bkT (by repeat (first|exact hT|refine HT.upd ?_ hX0 hX1))) ?_| refine z0s hn (z07 (m:=(e0+1,X)) (z02 _ (e0,X) _) (bkT (by repeat (first|exact hT|refine HT.upd ?_ hX0 hX1)))) ?_))|(apply z0o;(first|refine z1r (raw':=pbx s ((k+1:Nat):Int) 0 0) (z02 _ (e0,X) _) ?_| refine z1r (raw':=pbx s ((j+1:Nat):Int) 0 0) (z02 _ (e0,X) _) ?_))|refine z05 ?_|fail)
 all_goals try (exfalso;omega)
 all_goals ((repeat rw[z0a]);exact z01 ih' rfl rfl)):p:=h
theorem zD35 {p:Prop} (h:p:=by
 intro hp h1 q1
 have qq:∀ x,z2o (0,x) hp=true→z74 (push hp H) (0,x):=fun x q e t b he hb=>by
  obtain rfl:e=0:=by simp at he;omega
  exact z3d q hb
 have:=zhf s (push hp H) h1 (qq 901 q1)
 rw[z9t] at this
 exact this):p:=h
theorem zD36 {p:Prop} (h:p:=by
 intro j x m hx hm
 rw[z7v q a v h1] at hx
 by_cases hj:j<q.length
 · rw[zAb hj] at hx
   rw[zAb (by omega)] at hm
   exact hd j (g x.1,x.2) m (by rw[zAd,hx];rfl) hm
 · have hj2:=(zA1.1 hx).1
   simp at hj2
   obtain rfl:j=q.length:=by omega
   rw[zAg (zAj _)] at hx
   rw[zAg (by omega),hlen] at hm
   simp at hx hm;subst hx;subst hm
   exact⟨rfl,hz1.1,hz1.2⟩):p:=h
theorem zD37 {p:Prop} (h:p:=by
 repeat' (first|(apply z0v;(refine z0c zbr rfl rfl ?_))|(apply z03;(refine zm5 hl rfl hX hZ (by decide) ?_))|refine z05 ?_|fail)
 all_goals exact z00 Tryz.func131 _ (z34 rfl rfl rfl rfl rfl rfl) ⟨by first|rfl|(dsimp only[ptc];rw[← ho2];rfl)|(dsimp only[ptc];rw[← ho1];rfl)|(dsimp only[ptc];rw[← ho1,← ho2];rfl),rfl⟩):p:=h
theorem zD38 {p:Prop} (h:p:=by
 repeat' (first|(apply z09;(first|refine z0c (z1n (ys:=lv.map fun r=>[rgs r]) rfl (idx (g:=fun r=>[rgs r]) hr)) rfl rfl ?_| refine z0c (z1n (ys:=pts.map rcc) rfl (idx (g:=rcc) hx)) rfl rfl ?_))|(apply z06;(refine z0k (z1n (ys:=pts.map rcc) rfl (idx (g:=rcc) hx)) rfl rfl ?_))|(apply z0v;(first|refine z0c (z9n (by omega)) rfl rfl ?_| refine z0c z4k rfl rfl ?_))|(apply z1l;(first|refine z0k (zk9 (by omega)) rfl rfl ?_| refine z0k zbr rfl rfl ?_))|(apply z03;(refine z1i hcl ?_))|refine z05 ?_|refine fk (fun _=>?_) (fun _=>?_))
 all_goals try (exfalso;omega)
 all_goals exact z01 ihn' rfl rfl):p:=h
theorem zD39 {p:Prop} (h:p:=by
 simp only[exR] at hex
 simp only[y4q]
 refine z08 Tryz.func21 (by kernel_rfl) rfl (by simp) ?_
 dsimp only[Tryz.f21]
 repeat' (first | (apply z1b; (refine z9k rfl rfl (by decide) ?_)) | (apply z03; (first | refine z5f hex ?_| refine z1i hval ?_| (refine zba rfl (hof _) (by decide) rfl (fun r H' h => ⟨_, h.1, h.2, rfl, rfl, ?_⟩)) /- z5r -/)) | (apply z2n; (refine z0j z5k ?_)) | refine z05 ?_ | fail)
 all_goals try (exfalso;first|omega|(simp at *;done)|(simp at *;omega))
 all_goals exact z00 Tryz.func21 _ (z04 rfl rfl rfl rfl rfl rfl rfl) ⟨rfl,rfl⟩):p:=h
theorem zD40 {p:Prop} (h:p:=by
 all_goals try (exfalso;omega)
 all_goals ((repeat rw[z0a]);refine z4r wkP ?_;first|exact z00 Tryz.func211 _ (z04 rfl rfl rfl rfl rfl rfl rfl) ⟨rfl,rfl⟩|exact z00 Tryz.func211 _ z0z ⟨rfl,rfl⟩|exact z00 Tryz.func211 _ z11 ⟨rfl,rfl⟩|exact z00 Tryz.func211 _ z1h ⟨rfl,rfl⟩)):p:=h
theorem zD41 {p:Prop} (h:p:=by
 rw[hp] at hb i2
 simp only at i2
 rw[← i2,z96,z4a]
 rw[rsB] at hb
 repeat' (first|(apply z0i;(refine z2r (z02 _ (e0,X) _) ?_))|(apply z03;(first|refine z1v hb (z02 _ (e0,X) _) (bkT (by repeat (first|exact hT|refine HT.upd ?_ hX0 hX1))) ?_| refine z0s hn (z07 (m:=(e0+1,X)) (z02 _ (e0,X) _) (bkT (by repeat (first|exact hT|refine HT.upd ?_ hX0 hX1)))) ?_))|(apply z0o;(refine z1r (raw':=pbx s ((j+1:Nat):Int) 0 0) (z02 _ (e0,X) _) ?_))|refine z05 ?_|fail)
 all_goals exact zD22):p:=h
theorem zD42 {p:Prop} (h:p:=by
 refine⟨fun m c hc=>?_,fun m1 m2 c1 c2 e1 e2 l1 l2 hn=>?_,hr.heap.lt⟩
 · by_cases hm:m=(md+1,ms)
   · subst hm
     rw[hgone] at hc;simp at hc;subst hc;exact .gone _
   · rw[hne m hm];exact(hr.heap.blk m c hc).reβ (md+1,ms) hne (hold m c hc)
 · have hg1:∀ m c,z0f (push hp up) m=some c→c.live=true→m≠(md+1,ms):=by
    rintro m c hc hl rfl
    rw[hgone] at hc;simp at hc;subst hc;cases hl
   rw[hne m1 (hg1 m1 c1 e1 l1),hne m2 (hg1 m2 c2 e2 l2)]
   exact hr.heap.inj m1 m2 c1 c2 e1 e2 l1 l2 hn):p:=h
theorem zD43 {p:Prop} (h:p:=by
 repeat' (first|(apply z0i;(refine z2r hX ?_))|(apply z03;(first|refine z1v hu (z02 _ (e0,X) _) (bkT (by repeat (first|exact hT|refine HT.upd ?_ hX0 hX1))) ?_| refine z0s hn (z07 (m:=(e0+1,X)) hX (bkT (by repeat (first|exact hT|refine HT.upd ?_ hX0 hX1)))) ?_))|(apply z0p;(refine ztu heat (by first|exact rfl|exact⟨_,rfl,rfl,rfl⟩) rfl (z02 _ (e0,X) _) (bkT (by repeat (first|exact hT|refine HT.upd ?_ hX0 hX1))) (by decide) ?_))|(apply z0o;(refine z1r (raw':=pbx s ((i+1:Nat):Int) 0 0) hX ?_))|refine z05 ?_|fail)
 all_goals exact zD7):p:=h
theorem zD44 {p:Prop} (h:p:=by
 all_goals try (exfalso;omega)
 all_goals exact z00 Tryz.func47 _ (z2b rfl rfl rfl rfl rfl rfl rfl rfl) ⟨rfl,rfl⟩):p:=h
theorem zD45 {p:Prop} (h:p:=by
 all_goals try (exfalso;omega)
 all_goals ((repeat rw[z0a]);first|exact z00 Tryz.func128 _ (z04 rfl rfl rfl rfl rfl rfl rfl) ⟨rfl,rfl⟩|exact z00 Tryz.func128 _ z0z ⟨rfl,rfl⟩|exact z00 Tryz.func128 _ z11 ⟨rfl,rfl⟩|exact z00 Tryz.func128 _ z1h ⟨rfl,rfl⟩)):p:=h
theorem zD46 {p:Prop} (h:p:=by
 refine z0l ?_
 refine z01 (z0x (fun r:Nat × Array Int=>⟨133,[(0,.ref (0,1000)),(1,I .i64 (a:Nat)),(2,I .i64 (b:Nat)),(7,I .i64 (q:Nat)),(8,I .i64 (j:Nat)),(10,I .i64 (r.1:Nat)),(101000,.al (0,1000) (1,1000))],[(1000,rwA r.2)],upd H (0,1000) .gone⟩) (fun r=>r.2.size=d.size∧q<r.1∧r.1≤b∧Go.Sort.shiftUp Go.Sort.ltInt b r.1 r.2=D4) (fun r=>b-r.1) ?_ (q+1,e3) ⟨hz3,by simp only;omega,by simp only;omega,hD4⟩) rfl rfl
 exact zD2):p:=h
theorem zD47 {p:Prop} (h:p:=by
 intro i x m' hx hm'
 rw[hset] at hx
 by_cases hi:i=j
 · subst hi
   rw[zAp (by omega)] at hx
   rw[zAp hjl] at hm'
   simp at hx hm';subst hx;subst hm'
   exact⟨rfl,hz1.1,hz1.2⟩
 · rw[List.getElem?_set_ne (Ne.symm hi)] at hx hm'
   exact hd i (g x.1,x.2) m' (by rw[zAd,hx];rfl) hm'):p:=h
theorem zD48 {p:Prop} (h:p:=by
 cases hr:Region.ready .any ops.toArray listed with
 | nil=>rfl
 | cons x xs =>
  rw[hr] at hi
  have hlt:tt % (x::xs).length<(x::xs).length:=Nat.mod_lt _ (by simp)
  simp at hi
  simp at hlt
  omega):p:=h
theorem zD49 {p:Prop} (h:p:=by
 have hw:RowKit.Below w.heap.size w { w with drawn:=w.drawn+1 }:=⟨rfl,rfl,rfl,zAj _,fun _ _=>rfl⟩
 have hdone:=key β own a { w with drawn:=w.drawn+1 } (hrep.below hw) b hb hk hn cs
 refine(hdone.ext (Below.ext hw own)).of_steps (.one ?_)
 have:=stepR_region_draw (P:=P) (b:=b) (a:={ a with defers:=b.defers }) (k:=k) (cs:=cs) (w:=w) (ops:=ops.toArray) (id:=id)
 refine this.trans ?_
 simp only[Region.schedule,hmix,Bool.true_or,if_true]
 rfl):p:=h
theorem zD50 {p:Prop} (h:p:=by
 repeat' (first|(apply z0v;(refine z0c (z1f (zab (by omega) (by omega))) rfl rfl ?_))|refine z05 ?_|refine fk (fun _=>?_) (fun _=>?_))
 all_goals try (exfalso;omega)
 all_goals exact z00 Tryz.func179 _ z11 ⟨rfl,rfl⟩):p:=h
theorem zD51 {p:Prop} (h:p:=by
 repeat' (first|(apply z09;(refine z0c (z1n (ys:=lv.map fun r=>[rgs r]) rfl hli) rfl rfl ?_))|(apply z0v;(first|refine z0c (z9n (by omega)) rfl rfl ?_| refine z0c (zk9 (by omega)) rfl rfl ?_| refine z0c z4k rfl rfl ?_| refine z0c zbr rfl rfl ?_))|(apply z03;(refine z1i hcl ?_))|refine z05 ?_|refine fk (fun _=>?_) (fun _=>?_))
 all_goals try (exfalso;omega)
 all_goals exact z01 ihn' rfl rfl):p:=h
theorem zD52 {p:Prop} (h:p:=by
 all_goals try (exfalso;omega)
 all_goals exact z00 Tryz.func42 _ (z2b rfl rfl rfl rfl rfl rfl rfl rfl) ⟨rfl,rfl⟩):p:=h
theorem zD53 {p:Prop} (h:p:=by
 show PV.saysL (j,x) (PV.liftL 0 cs)=PV.saysL (j,x) cs
 have h0:∀ p:PV,p.lift 0=p:=by
  intro p
  refine PV.rec (motive_1:=fun p=>p.lift 0=p) (motive_2:=fun ps=>PV.liftL 0 ps=ps) ?_ ?_ ?_ ?_ ?_ ?_ ?_ ?_ ?_ ?_ ?_ ?_ ?_ ?_ ?_ p <;> intros <;> simp_all [PV.lift,PV.liftL]
 have:∀ cs,PV.liftL 0 cs=cs:=by
  intro cs;induction cs with
  | nil=>rfl
  | cons p r ih=>simp[PV.liftL,h0,ih]
 rw[this]):p:=h
theorem zD54 {p:Prop} (h:p:=by
 have:(cur.set j { m with key:=g a,val:=zv }).map (·.born)=cur.map (·.born):=by
  rw[List.map_set]
  apply List.ext_getElem?
  intro i
  rw[List.getElem?_set]
  by_cases hi:j=i
  · subst hi;simp[hjl];exact congrArg MapEntry.born (zA1.1 h2).2.symm
  · simp[hi]
 rw[this];exact hbn):p:=h
theorem zD55 {p:Prop} (h:p:=by
 have hf:(decide (r.1≤c)&&decide (c≤r.2))=false:=by
  rw[← Bool.decide_and];exact zAo hc
 rw[hf,Bool.false_or] at i2
 repeat' (first|(apply z09;(refine z0c (z1n (ys:=l.map rgc) rfl (idx hr)) rfl rfl ?_))|refine z05 ?_|refine fk (fun _=>?_) (fun _=>?_))
 all_goals try (exfalso;omega)
 all_goals exact z01 (ih (q+1) ⟨by omega,i2⟩ (by omega)) rfl rfl):p:=h
theorem zD56 {p:Prop} (h:p:=by
 subst hvs
 obtain⟨op,mn,mx,rs,ks⟩:=e
 rw[z2h] at hsh ⊢
 dsimp only[shv] at hsh
 refine z08 Tryz.func61 (by kernel_rfl) rfl (by simp) ?_
 dsimp only[Tryz.f61]
 repeat' (first|(apply z03;(refine z1i hsh ?_))|refine z05 ?_|refine fk (fun _=>?_) (fun _=>?_))
 all_goals try (exfalso;omega)
 all_goals exact z00 Tryz.func61 _ z11 ⟨rfl,rfl⟩):p:=h
theorem zD57 {p:Prop} (h:p:=by
 have hbr:=hr.heap.blk (md+1,ms) _ hlook
 refine HR.install (d:=y) hr0 hfr.1 (Ext.refl w own) hr.heap.lt (v:=β (md+1,ms)) (b:=raw.lift (md+1)) (fun m c hm hc hmy g hg=>?_) (hbr.reβ (0,y) (z2a β y _) (Blk.lift_says _ _ _))
 obtain⟨h1,h2⟩:=key m c hm hc
 exact⟨rfl,(hr.heap.blk m c h2).block_lt hc hg,fun _=>hr.heap.inj m (md+1,ms) c _ h2 hlook hc hl' h1 g hg⟩):p:=h
theorem zD58 {p:Prop} (h:p:=by
 repeat' (first|(apply z1b;(refine z8k hk1 rfl rfl rfl (by decide) rfl rfl rfl (by decide) rfl rfl rfl rfl ?_))|(apply z09;(refine z0c (z1n (ys:=ks.map rxc) rfl (z57 hki)) rfl rfl ?_))|(apply z0v;(refine z0c zbr rfl rfl ?_))|refine z05 ?_|refine fk (fun _=>?_) (fun _=>?_))
 all_goals try (exfalso;omega)
 all_goals (rw[← ho1,← ho2] at ih';exact z01 ih' rfl rfl)):p:=h
theorem zD59 {p:Prop} (h:p:=by
 rw[his]
 simp only[madeCells,Array.getElem?_toList,Array.getElem?_map]
 rw[Array.getElem?_range]
 simp only[hlt,if_true,Option.map_some,hzsz]
 have hmod:(i'*te.size+j) % te.size=j:=by rw[Nat.add_comm,Nat.add_mul_mod_self_right];exact Nat.mod_eq_of_lt hj
 rw[hmod,← hzc,Array.getElem?_toList,getElem!_pos z.cells j (by omega),Array.getElem?_eq_getElem (by omega)]):p:=h
theorem zD60 {p:Prop} (h:p:=by
 obtain⟨i,u,z,hi,hu,hz,hs,hb,hk',_⟩:=h.get
 rw[hk] at hk'
 cases u <;> simp[TK.ofD] at hk' <;> simp_all):p:=h
theorem zD61 {p:Prop} (h:p:=by
 repeat' (first|refine z05 ?_|refine fk (fun _=>?_) (fun _=>?_))
 all_goals try (exfalso;omega)
 all_goals (refine z00 Tryz.func130 _ z11 ⟨?_,rfl⟩;rw[hvl];simp_all <;> omega)):p:=h
theorem zD62 {p:Prop} (h:p:=by
 have hp:=PR.ref (β:=z4h β d v') (w:=w') (own:=fun g=>own g∨v'.ownBlock=some g) (0,d)
 rw[z18] at hp
 exact hin.put (dst:=some d) (p:=.ref (0,d)) (by simpa[St.fits] using hd) hp):p:=h
theorem zD63 {p:Prop} (h:p:=by
 repeat' (first|(apply z5d;((exact z01 hk rfl rfl)))|(apply z0v;(first|refine z0c (z1e z1g) rfl rfl ?_| refine z0c (z1f z1g) rfl rfl ?_| refine z0c (z8e (by omega) (by decide) z1g) rfl rfl ?_))|(apply z03;(first|refine z3v hi ?_| refine z3v hr ?_))|refine z05 ?_|refine fk (fun _=>?_) (fun _=>?_))
 all_goals try (exfalso;omega)):p:=h
theorem zD64 {p:Prop} (h:p:=by
 simp only[execOp]
 have:(Array.map (fun x:Nat × Operand=>match x with|(i,x)=>(i,a.eval x)) l.toArray)=l.toArray.map fun x=>(x.1,a.eval x.2):=rfl
 rw[this,Sem.run_bind,hrun]
 rfl):p:=h
theorem zD65 {p:Prop} (h:p:=by
 have gq:d'.toList[((q:Nat):Int).toNat]? =some d'[q]!:=z2f (by omega) (by omega)
 have hc:=z1d d'[q]! d'[a]!
 rw[zAi hq.2] at hc
 rw[y49 hq.1 (by simp[Go.Sort.ltInt,hq.2])] at q2
 have ih':=ihq (q+1) ⟨by omega,by omega,q2⟩ (by omega)
 obtain⟨hq1,hq2⟩:=hq
 clear ihq
 all_goals exact zD26):p:=h
theorem zD66 {p:Prop} (h:p:=by
 rw[zAy h123] at i2
 rw[← i2,z96,z6g,z3u i1]
 repeat' (first|(apply z0i;(refine z2r (z02 _ (e0,X) _) ?_))|(apply z03;(refine z0s hn (z07 (m:=(e0+1,X)) (z02 _ (e0,X) _) (bkT (by repeat (first|exact hT|refine HT.upd ?_ hX0 hX1)))) ?_))|refine z05 ?_|refine fk (fun _=>?_) (fun _=>?_))
 all_goals exact zD22):p:=h
theorem zD67 {p:Prop} (h:p:=by
 rw[zA4,zAa,zAn,show (((P.length+1:Nat):Int)-1).toNat=P.length by omega];simp):p:=h
theorem zD68 {p:Prop} (h:p:=by
 refine .d _ _ (.agg _ _ (by simpa using hl) h1 fun j x v hx hv=>?_)
 have:=hd j (.d x) v (by rw[zAd,hx];rfl) hv
 cases this with|d _ _ h=>exact h):p:=h
theorem zD69 {p:Prop} (h:p:=by
 all_goals try (exfalso;omega)
 all_goals refine z3e (raw:=rwA d') 1000 0 1000 ?_
 all_goals refine z00 Tryz.func174 _ z11 ⟨rfl,?_⟩
 all_goals simp[z62,z1p]):p:=h
theorem zD70 {p:Prop} (h:p:=by
 rw[← hh] at hc
 repeat' (first|(apply z0v;(refine z0c (zmu (by omega)) rfl rfl ?_))|(apply z03;(refine zre (first:=[]) (cap:=PV.liftL 1 caps) (ps:=[I .i64 ((((i:Nat):Int)+((j:Nat):Int)) / 2)]) hc rfl rfl (hb _ _ _) (by decide) ?_))|refine z05 ?_|refine fk (fun _=>?_) (fun _=>?_))
 all_goals exact zD12):p:=h
theorem zD71 {p:Prop} (h:p:=by
 clear ih
 repeat' (first|(apply z0v;(refine z0c (z1e z1g) rfl rfl ?_))|(apply z03;(refine z3v hi ?_))|refine z05 ?_|refine fk (fun _=>?_) (fun _=>?_))
 all_goals try (exfalso;omega)
 refine z3e (raw:=rwA S) 1000 0 1000 ?_
 refine z00 Tryz.func133 _ (z2q rfl) ⟨rfl,?_⟩
 simp[z62,z1p]):p:=h
theorem zD72 {p:Prop} (h:p:=by
 refine⟨hgrow.os,hgrow.tape,hgrow.output,hgrow.size,fun b hb hno=>hgrow.block b hb fun e=>hno (ho b e.symm),fun b hb hno=>?_⟩
 rintro(h|h)
 · exact hno h
 · rcases hwhere with e|e
   · rw[e] at h;exact hno (ho b h)
   · rw[e] at h;simp at h;omega):p:=h
theorem zD73 {p:Prop} (h:p:=by
 have h1:=(hlist i).2 hx
 rw[Array.getD_eq_getD_getElem?,Array.getElem?_eq_getElem (by omega)] at h1 hun
 simp at h1 hun
 rw[h1] at hun;cases hun):p:=h
theorem zD74 {p:Prop} (h:p:=by
 refine z5l (raw:=.box [.ref (0,5000)]) 700 1 3 (z0b v3 (by simp)) ?_
 refine zcz rfl ⟨rfl,?_⟩
 rw[← hV,z1p,z89 (by simp),z1p,z9g (m:=(1,3)) hb3]):p:=h
theorem zD75 {p:Prop} (h:p:=by
 all_goals try (exfalso;omega)
 all_goals ((repeat rw[z0a]);refine z4r wkP ?_;first|exact z00 Tryz.func197 _ (z04 rfl rfl rfl rfl rfl rfl rfl) ⟨rfl,rfl⟩|exact z00 Tryz.func197 _ z0z ⟨rfl,rfl⟩|exact z00 Tryz.func197 _ z11 ⟨rfl,rfl⟩|exact z00 Tryz.func197 _ z1h ⟨rfl,rfl⟩)):p:=h
theorem zD76 {p:Prop} (h:p:=by
 all_goals try (exfalso;omega)
 all_goals ((repeat rw[z0a]);refine z4r wkP ?_;first|exact z00 Tryz.func210 _ (z04 rfl rfl rfl rfl rfl rfl rfl) ⟨rfl,rfl⟩|exact z00 Tryz.func210 _ z0z ⟨rfl,rfl⟩|exact z00 Tryz.func210 _ z11 ⟨rfl,rfl⟩|exact z00 Tryz.func210 _ z1h ⟨rfl,rfl⟩)):p:=h
theorem zD77 {p:Prop} (h:p:=by
 all_goals try (exfalso;omega)
 all_goals ((repeat rw[z0a]);refine z4r wkP ?_;first|exact z00 Tryz.func214 _ (z04 rfl rfl rfl rfl rfl rfl rfl) ⟨rfl,rfl⟩|exact z00 Tryz.func214 _ z0z ⟨rfl,rfl⟩|exact z00 Tryz.func214 _ z11 ⟨rfl,rfl⟩|exact z00 Tryz.func214 _ z1h ⟨rfl,rfl⟩)):p:=h
theorem zD78 {p:Prop} (h:p:=by
 apply List.ext_getElem?
 intro i
 rw[List.getElem?_modify,List.getElem?_set]
 by_cases hi:j=i
 · subst hi;simp[h2,hjl];exact congrArg MapEntry.born (zA1.1 h2).2
 · simp[hi]):p:=h
theorem zD79 {p:Prop} (h:p:=by
 rw[zAy g]
 have:(decide (0≤c)&&decide (c≤1114111))=false:=by
  by_cases g0:0≤c
  · rw[zAo (show ¬ c≤1114111 from fun g1=>g ⟨g0,g1⟩),Bool.and_false]
  · rw[zAo g0];rfl
 rw[this];cases w <;> rfl):p:=h
theorem zD80 {p:Prop} (h:p:=by
 generalize hxv:ac.eval x=xv at ex
 cases ex with
 | ref _=>exact hβ):p:=h
theorem zD81 {p:Prop} (h:p:=by
 all_goals try (exfalso;omega)
 all_goals ((repeat rw[z0a]);first|exact z00 Tryz.func208 _ (z04 rfl rfl rfl rfl rfl rfl rfl) ⟨rfl,rfl⟩|exact z00 Tryz.func208 _ z0z ⟨rfl,rfl⟩|exact z00 Tryz.func208 _ z11 ⟨rfl,rfl⟩|exact z00 Tryz.func208 _ z1h ⟨rfl,rfl⟩)):p:=h
theorem zD82 {p:Prop} (h:p:=by
 repeat' (first|(apply z03;(first|refine z3v c1 ?_| refine z1i c2 ?_| refine z1i c4 ?_))|(apply z2n;(refine z0j z5k ?_))|refine z05 ?_|refine fk (fun _=>?_) (fun _=>?_))
 all_goals try (exfalso;omega)
 refine z00 Tryz.func51 _ z11 ⟨?_,rfl⟩
 simp[hp]):p:=h
theorem zD83 {p:Prop} (h:p:=by
 all_goals try (exfalso;omega)
 all_goals ((repeat rw[z0a]);first|exact z00 Tryz.func210 _ (z04 rfl rfl rfl rfl rfl rfl rfl) ⟨rfl,rfl⟩|exact z00 Tryz.func210 _ z0z ⟨rfl,rfl⟩|exact z00 Tryz.func210 _ z11 ⟨rfl,rfl⟩|exact z00 Tryz.func210 _ z1h ⟨rfl,rfl⟩)):p:=h
theorem zD84 {p:Prop} (h:p:=by
 all_goals try (exfalso;omega)
 all_goals ((repeat rw[z0a]);first|exact z00 Tryz.func45 _ (z04 rfl rfl rfl rfl rfl rfl rfl) ⟨rfl,rfl⟩|exact z00 Tryz.func45 _ z0z ⟨rfl,rfl⟩|exact z00 Tryz.func45 _ z11 ⟨rfl,rfl⟩|exact z00 Tryz.func45 _ z1h ⟨rfl,rfl⟩)):p:=h
theorem zD85 {p:Prop} (h:p:=by
 repeat' (first|(apply z03;(first|refine z1v hcl hX (bkT (by repeat (first|exact hT|refine HT.upd ?_ hX0 hX1))) ?_| refine z0s hn (z07 (m:=(e0+1,X)) hX (bkT (by repeat (first|exact hT|refine HT.upd ?_ hX0 hX1)))) ?_))|refine z05 ?_|fail)
 all_goals exact zD7):p:=h
theorem zD86 {p:Prop} (h:p:=by
 repeat' (first|(apply z0v;(refine z0c z4k rfl rfl ?_))|refine z05 ?_|(apply z1b;(refine z2p hlt rfl rfl (by decide) ?_)))
 all_goals try (exfalso;omega)
 all_goals exact z00 Tryz.func63 _ z11 ⟨congrArg (fun b=>RV.v (B b)) hfin,rfl⟩):p:=h
theorem zD87 {p:Prop} (h:p:=by
 rw[PV.liftL_get] at hx
 cases hc:cs[j]? with
 | none=>simp[hc] at hx
 | some y=>rw[hc] at hx;simp at hx;subst hx;exact ih j y v hc hv):p:=h
theorem zD88 {p:Prop} (h:p:=by
 repeat' (first|(apply z09;(refine z0c (z1n (ys:=ks.map rxc) rfl (z57 hk)) rfl rfl ?_))|(apply z03;(refine z1i hc ?_))|refine z05 ?_|refine fk (fun _=>?_) (fun _=>?_))
 all_goals try (exfalso;omega)
 all_goals exact z01 ihl' rfl rfl):p:=h
theorem zD89 {p:Prop} (h:p:=by
 rw[zhm,← i3]
 have:(decide (a≤r.1)&&decide (r.1≤r.2)&&decide (r.2≤1114111))=false:=by
  rw[← Bool.decide_and,← Bool.decide_and,zA5]
  exact fun h=>hgd ⟨h.1.1,h.1.2,h.2⟩
 rw[this];rfl):p:=h
theorem zD90 {p:Prop} (h:p:=by
 cases hv:vns e with
 | false=>simp
 | true =>
  rw[(y2z (by decide)).1 e hv]
  simp only[Bool.true_eq_false,if_false]
  by_cases hp:64<pn e
  · rw[zAz hp,zAz (by omega)]
  · rw[zAy hp,zAy (by omega)]):p:=h
theorem zD91 {p:Prop} (h:p:=by
 obtain⟨h1,h2⟩:=hr
 refine⟨h1,?_⟩
 rcases h2 with h2|⟨g,cap,cur,hv,hb,hg,rest⟩
 · exact .inl h2
 · subst hv
   refine .inr ⟨g,cap,cur,rfl,hb,?_,rest⟩
   rw[(hk rfl g rfl).1];exact hg):p:=h
theorem zD92 {p:Prop} (h:p:=by
 rw[hβ] at hbr ⊢
 cases hbr with
 | lp g _ _ _ _ _ _ _ _ tmps' df' ho' hg' hl hd =>
  rw[hg] at hg';simp at hg'
  obtain⟨rfl,rfl⟩:=hg'
  exact .lp L n' f' ps asg body _ state' pend' tmps df ho hhere hl fun t p hp=>(hd t p hp).mono hE):p:=h
theorem zD93 {p:Prop} (h:p:=by
 by_cases hji:j=i
 · subst hji;simp[hsz,hilt]
 · rw[getD_set_ne false (Ne.symm hji),hlist];simp[hji]):p:=h
theorem zD94 {p:Prop} (h:p:=by
 all_goals ((repeat rw[z0a]);first|exact z00 Tryz.func48 _ (z04 rfl rfl rfl rfl rfl rfl rfl) ⟨rfl,rfl⟩|exact z00 Tryz.func48 _ z0z ⟨rfl,rfl⟩|exact z00 Tryz.func48 _ z11 ⟨rfl,rfl⟩|exact z00 Tryz.func48 _ z1h ⟨rfl,rfl⟩)):p:=h
theorem zD95 {p:Prop} (h:p:=by
 all_goals try (exfalso;omega)
 all_goals exact z00 Tryz.func63 _ z11 ⟨rfl,rfl⟩):p:=h
theorem zD96 {p:Prop} (h:p:=by
 repeat' (first|(apply z1q;(refine z0c (z3j rfl) rfl rfl ?_))|refine z05 ?_|refine fk (fun _=>?_) (fun _=>?_))
 all_goals try (exfalso;omega)
 all_goals exact z00 xN _ (z04 rfl rfl rfl rfl rfl rfl rfl) ⟨rfl,rfl⟩):p:=h
theorem zD97 {p:Prop} (h:p:=by
 repeat' (first|(apply z09;(refine z0c (z1n (ys:=ks.map rxc) rfl (z57 hk)) rfl rfl ?_))|refine z05 ?_|refine fk (fun _=>?_) (fun _=>?_))
 all_goals try (exfalso;omega)
 all_goals exact z01 ihq' rfl rfl):p:=h
theorem zD98 {p:Prop} (h:p:=by
 repeat' (first|(apply z03;(first|refine z1i hsh ?_| refine z1i hpo ?_))|refine z05 ?_|refine fk (fun _=>?_) (fun _=>?_))
 all_goals try (exfalso;omega)
 all_goals exact z00 Tryz.func61 _ z11 ⟨rfl,rfl⟩):p:=h
theorem zD99 {p:Prop} (h:p:=by
 intro h
 cases l with
 | nil=>simp[z92] at h
 | cons c l =>
  rw[z3s] at h
  split at h
  · cases l with
    | nil=>simp at h
    | cons d l=>simp only at h;split at h <;> simp at h
  · split at h <;> simp at h):p:=h
theorem zD100 {p:Prop} (h:p:=by
 repeat' (first|(apply z2n;(refine z0j z5k ?_))|refine z05 ?_|refine fk (fun _=>?_) (fun _=>?_))
 all_goals try (exfalso;simp only[zA4] at *;omega)
 all_goals exact z00 Tryz.func37 _ z11 ⟨rfl,rfl⟩):p:=h
theorem zD101 {p:Prop} (h:p:=by
 repeat' (first|(apply z1q;(refine z0c (z3j rfl) rfl rfl ?_))|refine z05 ?_|refine fk (fun _=>?_) (fun _=>?_))
 all_goals try (exfalso;omega)
 refine z13 1000 rfl ?_
 exact z00 Tryz.func94 _ z11 ⟨rfl,rfl⟩):p:=h
theorem zD102 {p:Prop} (h:p:=by
 rw[hr] at hrun
 simp only[Result.ok.injEq] at hrun
 right;rw[← hrun.1];rfl):p:=h
theorem zD103 {p:Prop} (h:p:=by
 have hB:RowKit.Below w1.heap.size w1 (grow w1 os):=⟨rfl,rfl,rfl,by simp[grow],fun k hk=>by simp only[grow];rw[Array.getElem?_append_left hk]⟩
 exact fin _ (hE.trans (Below.ext hB own)) (hR1.below hB)):p:=h
theorem zD104 {p:Prop} (h:p:=by
 simp only[List.drop_succ_cons,List.drop_zero,List.cons_append,List.nil_append,List.cons.injEq,and_true]
 omega):p:=h
theorem zD105 {p:Prop} (h:p:=by
 repeat' (first|(apply z03;(first|refine zgm hu rfl rfl (bkT hT) (by decide) ?_|refine z1i hat ?_| refine z1i hv ?_))|refine z05 ?_|refine fk (fun _=>?_) (fun _=>?_))
 all_goals exact zD44):p:=h
theorem zD106 {p:Prop} (h:p:=by
 rw[List.map_append,List.pairwise_append]
 refine⟨hbn,by simp,fun u hu v hv=>?_⟩
 obtain⟨m,hm,rfl⟩:=List.mem_map.1 hu
 simp at hv;subst hv
 exact hc m hm):p:=h
theorem zD107 {p:Prop} (h:p:=by
 rw[zfx] at hp
 cases hc:cs[j]? with
 | none=>rw[hc] at hp;simp at hp
 | some c=>rw[hc] at hp;simp at hp;subst hp;exact(hd j c v hc hv).ren):p:=h
theorem zD108 {p:Prop} (h:p:=by
 all_goals refine z2i 103 1003 ?_
 all_goals exact z01 ihj' rfl rfl):p:=h
theorem zD109 {p:Prop} (h:p:=by
 rw[zg4] at hp
 cases hc:cs[j]? with
 | none=>rw[hc] at hp;simp at hp
 | some c=>rw[hc] at hp;simp at hp;subst hp;exact PR.frz hD (hd j c v hc hv)):p:=h
theorem zD110 {p:Prop} (h:p:=by
 rename_i hc
 have k4:=iQ _ _ _ _ h
 have k5:=z5s hc (by decide)
 rw[kr] at k4;omega):p:=h
theorem zD111 {p:Prop} (h:p:=by
 unfold z9y at hn ⊢
 cases hm:R.rnd with
 | none=>rw[hm] at hn;exact hn
 | some m =>
  rw[hm] at hn
  obtain⟨hv,L,h1,h2⟩:=hn
  exact⟨hv,L,h1,(hout m hv).trans h2⟩):p:=h
theorem zD112 {p:Prop} (h:p:=by
 repeat' (first|(apply z5d;((exact z01 hk rfl rfl)))|(apply z0v;(refine z0c (z1e z1g) rfl rfl ?_))|(apply z03;(refine z3v hi ?_))|refine z05 ?_|fail)
 all_goals try (exfalso;omega)):p:=h
theorem zD113 {p:Prop} (h:p:=by
 constructor
 · rintro rfl;rw[u25] at hu;simp at hu
 · rintro rfl;rw[u23] at hu;simp at hu):p:=h
theorem zD114 {p:Prop} (h:p:=by
 simp only at hp'
 rw[z5b] at hp'
 cases hq':look tm t with
 | none=>rw[hq'] at hp';cases hp'
 | some q=>rw[hq'] at hp';simp at hp';subst hp';exact(hr.tm t q hq').drop hne):p:=h
theorem zD115 {p:Prop} (h:p:=by
 intro m' hm'
 rcases List.mem_or_eq_of_mem_set hm' with h|h
 · exact hc m' h
 · subst h;exact hc m (zA2 h2)):p:=h
theorem zD116 {p:Prop} (h:p:=by
 intro m c hm hc
 rw[z4t,z2l] at hm
 by_cases e:m=(md+1,ms)
 · rw[zAz e] at hm;simp[atF,Blk.lift] at hm;subst hm;cases hc
 · rw[zAy e] at hm;exact⟨e,hm⟩):p:=h
theorem zD117 {p:Prop} (h:p:=by
 refine⟨by rw[← hw1];rfl,by rw[← hw1];rfl,by rw[← hw1];rfl,by omega,fun b hb hob=>?_,fun b hb hob=>hob⟩
 rw[hheap,zAy fun hh=>hob (by rw[← hh];exact hog)]):p:=h
theorem zD118 {p:Prop} (h:p:=by
 rw[hp] at hch
 rcases hc with hc|hc
 · all_goals exact zD10
 · rw[hc] at hcr
   all_goals exact zD10):p:=h
theorem zD119 {p:Prop} (h:p:=by
 rw[hal2,show (((m.length+1:Nat):Int)-1).toNat=m.length by omega];simp):p:=h
theorem zD120 {p:Prop} (h:p:=by
 cases ez with
 | d _ _ h =>
  refine⟨?_,h⟩
  cases h with
  | lit _ h1=>exact h1
  | nil=>rfl
  | slice=>rfl
  | agg=>simp[y2b] at hok
  | ifc=>rfl):p:=h
theorem zD121 {p:Prop} (h:p:=by
 repeat' (first|refine z05 ?_|refine fk (fun _=>?_) (fun _=>?_))
 all_goals exact zD12):p:=h
theorem zD122 {p:Prop} (h:p:=by
 repeat' (first|refine z05 ?_|refine fk (fun _=>?_) (fun _=>?_))
 all_goals try (exfalso;omega)
 all_goals exact z00 Tryz.func72 _ z11 ⟨rfl,rfl⟩):p:=h
theorem zD123 {p:Prop} (h:p:=by
 all_goals try (exfalso;omega)
 all_goals exact z00 Tryz.func37 _ z11 ⟨rfl,rfl⟩):p:=h
theorem zD124 {p:Prop} (h:p:=by
 repeat' (first|refine z05 ?_|refine fk (fun _=>?_) (fun _=>?_))
 all_goals try (exfalso;omega)
 exact z00 Tryz.func91 _ z11 ⟨rfl,rfl⟩):p:=h
theorem zD125 {p:Prop} (h:p:=by
 repeat' (first|refine z05 ?_|refine fk (fun _=>?_) (fun _=>?_))
 all_goals try (exfalso;omega)
 exact z00 Tryz.func96 _ z11 ⟨rfl,rfl⟩):p:=h
theorem zD126 {p:Prop} (h:p:=by
 intro m hm
 rcases zAt.1 hm with hm|hm
 · have:=hc m hm;omega
 · simp at hm;subst hm;simp):p:=h
theorem zD127 {p:Prop} (h:p:=by
 repeat' (first|refine z05 ?_|refine fk (fun _=>?_) (fun _=>?_))
 all_goals try (exfalso;omega)
 all_goals exact z00 Tryz.func95 _ z1h ⟨rfl,rfl⟩):p:=h
theorem zD128 {p:Prop} (h:p:=by
 rintro(e|e|e)
 · exact .inr (.inl e)
 · exact .inl e
 · exact .inr (.inr e)):p:=h
theorem zD129 {p:Prop} (h:p:=by
 repeat' (first|refine z05 ?_|refine fk (fun _=>?_) (fun _=>?_))
 all_goals try (exfalso;omega)
 all_goals exact z00 Tryz.func120 _ z11 ⟨rfl,rfl⟩):p:=h
theorem zD130 {p:Prop} (h:p:=by
 simp only[List.nil_append] at e;subst e
 obtain⟨j,h3,h4,h5⟩:=h2
 exact⟨j,.inr ⟨h1,h3⟩,h4,(zad hab hFb hla w j (hfb j h3)).2 h5⟩):p:=h
theorem zD131 {p:Prop} (h:p:=by
 split at h
 · simp at h
 · simp only[Rd.ok.injEq] at h;omega):p:=h
theorem zD132 {p:Prop} (h:p:=by
 all_goals try (exfalso;omega)
 all_goals rw[show (2*(r:Int)+1)=(((2*r+1):Nat):Int) by omega]
 all_goals exact z01 ih' rfl rfl):p:=h
theorem zD133 {p:Prop} (h:p:=by
 repeat' (first|refine z05 ?_|refine fk (fun _=>?_) (fun _=>?_))
 all_goals try (exfalso;omega)
 all_goals exact z00 Tryz.func16 _ z11 ⟨rfl,rfl⟩):p:=h
theorem zD134 {p:Prop} (h:p:=by
 rcases hown.2 with ⟨h1,_⟩|⟨g,cap,cur,h1,_⟩
 · exact⟨none,0,h1⟩
 · exact⟨_,cap,by simpa using h1⟩):p:=h
theorem zD135 {p:Prop} (h:p:=by
 split at h
 · simp at h
 split at h
 · simp at h
 split at h
 · split at h <;> simp at h
 · split at h <;> simp at h):p:=h
theorem zD136 {p:Prop} (h:p:=by
 rw[zak] at hx
 cases hc:cs[j]? with
 | none=>rw[hc] at hx;cases hx
 | some y=>rw[hc] at hx;simp at hx;subst hx;exact(hd j y u hc hu).alias hab):p:=h
theorem zD137 {p:Prop} (h:p:=by
 rename_i hc
 have k5:=z5s hc (by decide)
 exact iQ _ _ (by omega) h2):p:=h
theorem zD138 {p:Prop} (h:p:=by
 repeat' (first|(apply z5d;((exact z01 hk rfl rfl)))|refine z05 ?_|refine fk (fun _=>?_) (fun _=>?_))
 all_goals try (exfalso;omega)):p:=h
theorem zD139 {p:Prop} (h:p:=by
 rintro(h|h|h)
 · exact .inr (.inl h)
 · exact .inl h
 · exact .inr (.inr h)):p:=h
theorem zD140 {p:Prop} (h:p:=by
 repeat' (first|refine z05 ?_|refine fk (fun _=>?_) (fun _=>?_))
 all_goals try (exfalso;omega)
 exact z00 Tryz.func219 _ z11 ⟨rfl,rfl⟩):p:=h
theorem zD141 {p:Prop} (h:p:=by
 cases v with
 | slice a l c=>cases a <;> simp[Value.ownBlock] at hg;subst hg;exact(hk rfl _ rfl).2
 | _=>simp[Value.ownBlock] at hg):p:=h
theorem zD142 {p:Prop} (h:p:=by
 rcases hr.2 with h2|⟨g,cap,cur,hv,hb,hg,rest⟩
 · exact .inl h2
 · exact .inr ⟨g,cap,cur,hv,hb,h.cell hg (by simp),rest⟩):p:=h
theorem zD143 {p:Prop} (h:p:=by
 rcases hr.2 with h|⟨g',cap,cur,hv,_⟩
 · rw[h.1] at hg;simp[z1c] at hg
 · subst hv;simp[z1c] at hg;subst hg;exact ho _ rfl):p:=h
theorem zD144 {p:Prop} (h:p:=by
 constructor
 · intro h;exact⟨[],[],rfl,h,zn8 _⟩
 · rintro⟨u,v,e,h1,h2⟩
   obtain⟨rfl,rfl⟩:=z9o e
   exact h1):p:=h
theorem zD145 {p:Prop} (h:p:=by
 rw[znx]
 split
 · exact fun e=>h92 e.symm
 · rename_i hc
   intro e;rw[e,hd] at hc;exact hc rfl):p:=h
theorem zD146 {p:Prop} (h:p:=by
 rw[z9x q a j xq h1' h3 h4] at hr
 subst hr
 exact .d _ _ (hdd j (g xq.1,xq.2) m (by rw[zAd,h1'];rfl) h2).2.2):p:=h
theorem zD147 {p:Prop} (h:p:=by
 rw[List.flatMap_cons,zf1,zAl,zAl,zAl,z3q,zAl]
 exact zdq _ _ rfl (by decide)):p:=h
theorem zD148 {p:Prop} (h:p:=by
 simp only[List.getD_cons_zero,List.getD_cons_succ]
 rw[e,zAz (by rw[zA7,zA3];exact⟨by omega,hv⟩)];rfl):p:=h
theorem zD149 {p:Prop} (h:p:=by
 all_goals try (exfalso;first|omega|(simp at *;done))
 all_goals exact zD32):p:=h
theorem zD150 {p:Prop} (h:p:=by
 rcases this with h|h
 · simp only[execOp,hv,Instr.loadAt,Instr.sureAddr];simp[h,ha]
 · exact absurd hs h.2):p:=h
theorem zD151 {p:Prop} (h:p:=by
 cases l with
 | nil=>rfl
 | cons s l =>
  obtain⟨_,_,h3,h4,_⟩:=hs
  have:=hb s (by simp)
  omega):p:=h
theorem zD152 {p:Prop} (h:p:=by
 simp only[zAt] at hq
 rcases hq with hq|hq
 · exact hg.agrees q hq
 · exact z3f hz1 q hq):p:=h
theorem zD153 {p:Prop} (h:p:=by
 obtain⟨b1,h1,l1⟩:=hm x bx hx lx
 obtain⟨b2,h2,l2⟩:=hm y by' hy ly
 exact h.inj x y b1 b2 h1 h2 l1 l2 hne g' hg'):p:=h
theorem zD154 {p:Prop} (h:p:=by
 all_goals try (exfalso;omega)
 all_goals rw[show ((k+1:Nat):Int)-1-1=(k:Nat)-1 by omega]
 all_goals exact z01 ih' rfl rfl):p:=h
theorem zD155 {p:Prop} (h:p:=by
 all_goals try (exfalso;first|omega|(simp at *;done)|(simp at *;omega))
 all_goals exact z00 Tryz.func31 _ z0z ⟨rfl,rfl⟩):p:=h
theorem zD156 {p:Prop} (h:p:=by
 repeat' (first|(apply z5d;((exact z01 hk rfl rfl)))|refine z05 ?_|fail)
 all_goals try (exfalso;omega)):p:=h
theorem zD157 {p:Prop} (h:p:=by
 rw[Nat.div_add_mod' j te.size,hj] at h2
 rw[List.all_eq_true] at hz
 exact hz v (zA2 h2.symm)):p:=h
theorem zD158 {p:Prop} (h:p:=by
 rename_i e;rw[e] at h;exact⟨List.IsSuffix.trans h (z1x l),trivial⟩):p:=h
theorem zD159 {p:Prop} (h:p:=by
 all_goals try (exfalso;omega)
 all_goals refine z2i 36 1001 ?_
 all_goals exact z01 ih2 rfl rfl):p:=h
theorem zD160 {p:Prop} (h:p:=by
 simp only[List.getElem?_cons_succ,List.getElem?_cons_zero,zAh] at hp hv
 subst hp hv;exact hz):p:=h
theorem zD161 {p:Prop} (h:p:=by
 split
 · exact⟨List.suffix_refl _,trivial⟩
 · exact⟨List.suffix_cons c l,by simp[Rd.ate]⟩):p:=h
theorem zD162 {p:Prop} (h:p:=by
 simp[execOp,ex',ey,Instr.lookup,run_underlying hm,Go.MapKept.run_getObj_map hg,hk.check w,h2,Result.andThen,hz0]):p:=h
theorem zD163 {p:Prop} (h:p:=by
 rintro e' w' ⟨rfl,rfl⟩
 refine fin _ (Ext.refl _ _) ?_
 rw[z9g (m:=(d,x)) hH0]
 exact hHR):p:=h
