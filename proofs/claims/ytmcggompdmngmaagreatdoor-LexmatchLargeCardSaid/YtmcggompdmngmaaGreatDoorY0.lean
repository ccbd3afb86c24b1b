/- Blocks of steps that end a branch. -/
import Derived.WalkKit
import Derived.RangeFuncRecord
import Derived.Laws.StructEq
import Derived.KernelRfl
import Derived.Great.BuildSlice
set_option maxRecDepth 1000000
set_option maxHeartbeats 20000000
theorem zA0:type_of% @List.getElem?_eq_getElem:=@List.getElem?_eq_getElem
theorem zA1:type_of% @List.getElem?_eq_some_iff:=@List.getElem?_eq_some_iff
theorem zA2:type_of% @List.mem_of_getElem?:=@List.mem_of_getElem?
theorem zA3:type_of% @decide_eq_true_eq:=@decide_eq_true_eq
theorem zA4:type_of% @List.length_map:=@List.length_map
theorem zA5:type_of% @decide_eq_false_iff_not:=@decide_eq_false_iff_not
theorem zA6:type_of% @Bool.not_eq_true':=@Bool.not_eq_true'
theorem zA7:type_of% @Bool.and_eq_true:=@Bool.and_eq_true
theorem zA8:type_of% @Bool.not_eq_false':=@Bool.not_eq_false'
theorem zA9:type_of% @Int.toNat_natCast:=@Int.toNat_natCast
theorem zAa:type_of% @List.length_append:=@List.length_append
theorem zAb:type_of% @List.getElem?_append_left:=@List.getElem?_append_left
theorem zAc:type_of% @List.mem_cons:=@List.mem_cons
theorem zAd:type_of% @List.getElem?_map:=@List.getElem?_map
theorem zAe:type_of% @Array.length_toList:=@Array.length_toList
theorem zAf:type_of% @Nat.zero_le:=@Nat.zero_le
theorem zAg:type_of% @List.getElem?_append_right:=@List.getElem?_append_right
theorem zAh:type_of% @Option.some.injEq:=@Option.some.injEq
theorem zAi:type_of% @decide_eq_true:=@decide_eq_true
theorem zAj:type_of% @Nat.le_refl:=@Nat.le_refl
theorem zAk:type_of% @List.length_cons:=@List.length_cons
theorem zAl:type_of% @List.append_assoc:=@List.append_assoc
theorem zAm:type_of% @List.length_take:=@List.length_take
theorem zAn:type_of% @List.length_singleton:=@List.length_singleton
theorem zAo:type_of% @decide_eq_false:=@decide_eq_false
theorem zAp:type_of% @List.getElem?_set_self:=@List.getElem?_set_self
theorem zAq:type_of% @List.mem_singleton:=@List.mem_singleton
theorem zAr:type_of% @List.length_replicate:=@List.length_replicate
theorem zAs:type_of% @List.drop_length:=@List.drop_length
theorem zAt:type_of% @List.mem_append:=@List.mem_append
theorem zAu:type_of% @Bool.or_eq_true:=@Bool.or_eq_true
theorem zAv:type_of% @List.getElem?_eq_none:=@List.getElem?_eq_none
theorem zAw:type_of% @List.getElem?_of_mem:=@List.getElem?_of_mem
theorem zAx:type_of% @Nat.lt_of_lt_of_le:=@Nat.lt_of_lt_of_le
theorem zAy:type_of% @if_neg:=@if_neg
theorem zAz:type_of% @if_pos:=@if_pos
theorem zD1 {p:Prop} (h:p:=by
 clear hD4
 rintro⟨r,d5⟩ ⟨r1,r2,r3,r4⟩ ihr
 simp only at r1 r2 r3 r4 ihr ⊢
 by_cases hr:r<b∧d5[r]!<d5[r-1]!
 · rw[zwq hr.1 hr.2] at r4
   have g0:d5.toList[((r:Nat):Int).toNat]? =some d5[r]!:=z29 (by omega) (by omega)
   have gc:d5.toList[(((r:Nat):Int)-1).toNat]? =some d5[r-1]!:=z29 (by omega) (by omega)
   have s1:d5.toList.set ((r:Nat):Int).toNat d5[r-1]! =(d5.setIfInBounds r d5[r-1]!).toList:=z2h (by omega) _
   have g1:(d5.setIfInBounds r d5[r-1]!).toList[(((r:Nat):Int)-1).toNat]? =some (d5.setIfInBounds r d5[r-1]!)[r-1]!:=z29 (by omega) (by simp;omega)
   have s2:(d5.setIfInBounds r d5[r-1]!).toList.set (((r:Nat):Int)-1).toNat d5[r]! =(Go.Sort.swp d5 r (r-1)).toList:=z2h (by omega) _
   have z1:(d5.setIfInBounds r d5[r-1]!).size=d5.size:=by simp
   have z2:(Go.Sort.swp d5 r (r-1)).size=d5.size:=Go.Sort.swp_size _ _ _
   have hc:=z15 d5[r]! d5[r-1]!
   rw[zAi hr.2] at hc
   have ihr':=ihr (r+1,Go.Sort.swp d5 r (r-1)) ⟨by simp only;omega,by simp only;omega,by simp only;omega,r4⟩ (by simp only;omega)
   simp only at ihr'
   obtain⟨hr1,hr2⟩:=hr
   generalize Go.Sort.swp d5 r (r-1)=d6 at *
   generalize (d5.setIfInBounds r d5[r-1]!)=d7 at *
   clear ihr ih' r4
   repeat' (first|(apply z0c;(first|refine z0f (z0i (u:=z11 d5[r]!) g0) rfl rfl ?_| refine z0f (z0i (u:=z11 d5[r-1]!) gc) rfl rfl ?_))|(apply z05;(refine z0f (z1c rfl (by simp only[zA4,zAe];omega)) rfl rfl ?_))|(apply z0o;(refine z08 (z18 z16) rfl rfl ?_))|(apply z1e;(refine z0f (z1a z16) rfl rfl ?_))|(apply z0m;(refine z3z hc ?_))|(apply z0w;(first|refine z0g d5[r-1]! (by first|exact rfl|exact⟨_,rfl,rfl,rfl⟩) rfl rfl rfl rfl g0 rfl rfl rfl s1 ?_|refine z0g d5[r]! (by first|exact rfl|exact⟨_,rfl,rfl,rfl⟩) rfl rfl rfl rfl g1 rfl rfl rfl s2 ?_))|refine z01 ?_|refine fk (fun _=>?_) (fun _=>?_))
   all_goals try (exfalso;omega)
   all_goals exact z00 ihr' rfl rfl
 · rw[zck hr] at r4
   subst r4
   clear ihr
   by_cases hrb:r<b
   · skip
     have g0:d5.toList[((r:Nat):Int).toNat]? =some d5[r]!:=z29 (by omega) (by omega)
     have gc:d5.toList[(((r:Nat):Int)-1).toNat]? =some d5[r-1]!:=z29 (by omega) (by omega)
     have hc:=z15 d5[r]! d5[r-1]!
     rw[zAo (fun g=>hr ⟨hrb,g⟩)] at hc
     repeat' (first|(apply z0c;(first|refine z0f (z0i (u:=z11 d5[r]!) g0) rfl rfl ?_| refine z0f (z0i (u:=z11 d5[r-1]!) gc) rfl rfl ?_))|(apply z05;(refine z0f (z1c rfl (by simp only[zA4,zAe];omega)) rfl rfl ?_))|(apply z0o;(refine z08 (z18 z16) rfl rfl ?_))|(apply z1e;(refine z0f (z1a z16) rfl rfl ?_))|(apply z0m;(refine z3z hc ?_))|refine z01 ?_|refine fk (fun _=>?_) (fun _=>?_))
     all_goals try (exfalso;omega)
     all_goals exact z00 ih' rfl rfl
   · have hc:=z15 0 0
     repeat' (first|refine z01 ?_|refine fk (fun _=>?_) (fun _=>?_))
     all_goals try (exfalso;omega)
     all_goals exact z00 ih' rfl rfl):p:=h
theorem zD2 {p:Prop} (h:p:=by
 refine z0d ?_
 refine z00 (z0p (fun r:Nat=>⟨168,[(0,.ref (0,1000)),(1,I .i64 (a:Nat)),(10,I .i64 (q:Nat)),(11,I .i64 (r:Nat)),(101000,.al (0,1000) (1,1000))],[(1000,rwA d')],upd H (0,1000) .gone⟩) (fun r=>r≤j∧a≤r∧Go.Sort.scanDown (pR d' a) d' q r=jr) (fun r=>r) ?_ j ⟨zAj _,i4,hjr⟩) rfl rfl
 clear hjr
 clear gq
 rintro r ⟨r1,r3,r2⟩ ihr
 by_cases hr:q≤r∧¬ d'[r]!<d'[a]!
 · have gq:d'.toList[((r:Nat):Int).toNat]? =some d'[r]!:=z29 (by omega) (by omega)
   have hc:=z15 d'[r]! d'[a]!
   rw[zAo hr.2] at hc
   rw[zpg (by omega) hr.1 (by simp[Go.Sort.ltInt,hr.2])] at r2
   have ih':=ihr (r-1) ⟨by omega,by omega,r2⟩ (by omega)
   obtain⟨hq1,hq2⟩:=hr
   clear ihr
   repeat' (first|(apply z0c;(first|refine z0f (z0i (u:=z11 d'[r]!) gq) rfl rfl ?_| refine z0f (z0i (u:=z11 d'[a]!) ga) rfl rfl ?_))|(apply z05;(refine z0f (z1c rfl (by simp only[zA4,zAe];omega)) rfl rfl ?_))|(apply z0o;(refine z08 (z1a z16) rfl rfl ?_))|(apply z0m;(refine z3z hc ?_))|refine z01 ?_|refine fk (fun _=>?_) (fun _=>?_)|(refine z19 (fun hg=>?_) (fun hg=>?_)<;> simp only[hg] <;> (try simp only[zA3,zA5,zA6,zA8] at hg)))
   all_goals try (exfalso;omega)
   all_goals rw[show ((r:Nat):Int)-1=(r-1:Nat) by omega]
   all_goals exact z00 ih' rfl rfl
 clear ihr
 rw[zb0 (fun g=>hr ⟨g.1,by have:=g.2;simpa[Go.Sort.ltInt] using this⟩)] at r2
 subst r2
 have hex2:q≤r→d'[r]!<d'[a]!:=fun g=>Decidable.byContradiction fun h=>hr ⟨g,h⟩
 by_cases hqr:r<q
 · rw[zAz hqr] at i6
   subst i6
   clear ih
   have g0:d'.toList[((r:Nat):Int).toNat]? =some d'[r]!:=z29 (by omega) (by omega)
   have gc:d'.toList[((a:Nat):Int).toNat]? =some d'[a]!:=z29 (by omega) (by omega)
   have s1:d'.toList.set ((r:Nat):Int).toNat d'[a]! =(d'.setIfInBounds r d'[a]!).toList:=z2h (by omega) _
   have g1:(d'.setIfInBounds r d'[a]!).toList[((a:Nat):Int).toNat]? =some (d'.setIfInBounds r d'[a]!)[a]!:=z29 (by omega) (by simp;omega)
   have s2:(d'.setIfInBounds r d'[a]!).toList.set ((a:Nat):Int).toNat d'[r]! =(Go.Sort.swp d' r a).toList:=z2h (by omega) _
   have z1:(d'.setIfInBounds r d'[a]!).size=d'.size:=by simp
   have z2:(Go.Sort.swp d' r a).size=d'.size:=Go.Sort.swp_size _ _ _
   have hc:=z15 0 0
   skip
   generalize Go.Sort.swp d' r a=d2 at *
   generalize (d'.setIfInBounds r d'[a]!)=d1 at *
   repeat' (first|(apply z0c;(first|refine z0f (z0i (u:=z11 d'[a]!) ga) rfl rfl ?_| refine z0f (z0i (u:=z11 d'[r]!) g0) rfl rfl ?_))|(apply z05;(refine z0f (z1c rfl (by simp only[zA4,zAe];omega)) rfl rfl ?_))|(apply z0w;(first|refine z0g d'[a]! (by first|exact rfl|exact⟨_,rfl,rfl,rfl⟩) rfl rfl rfl rfl g0 rfl rfl rfl s1 ?_|refine z0g d'[r]! (by first|exact rfl|exact⟨_,rfl,rfl,rfl⟩) rfl rfl rfl rfl g1 rfl rfl rfl s2 ?_))|refine z01 ?_|refine fk (fun _=>?_) (fun _=>?_)|(refine z19 (fun hg=>?_) (fun hg=>?_)<;> simp only[hg] <;> (try simp only[zA3,zA5,zA6,zA8] at hg)))
   all_goals try (exfalso;omega)
   all_goals refine z2z (raw:=rwA d2) 1000 0 1000 ?_
   all_goals refine z02 Tryz.func177 _ z2j ⟨rfl,?_⟩
   all_goals simp[z6b,z1i]
 · rw[zAy hqr] at i6
   have g0:d'.toList[((q:Nat):Int).toNat]? =some d'[q]!:=z29 (by omega) (by omega)
   have gc:d'.toList[((r:Nat):Int).toNat]? =some d'[r]!:=z29 (by omega) (by omega)
   have s1:d'.toList.set ((q:Nat):Int).toNat d'[r]! =(d'.setIfInBounds q d'[r]!).toList:=z2h (by omega) _
   have g1:(d'.setIfInBounds q d'[r]!).toList[((r:Nat):Int).toNat]? =some (d'.setIfInBounds q d'[r]!)[r]!:=z29 (by omega) (by simp;omega)
   have s2:(d'.setIfInBounds q d'[r]!).toList.set ((r:Nat):Int).toNat d'[q]! =(Go.Sort.swp d' q r).toList:=z2h (by omega) _
   have z1:(d'.setIfInBounds q d'[r]!).size=d'.size:=by simp
   have z2:(Go.Sort.swp d' q r).size=d'.size:=Go.Sort.swp_size _ _ _
   have hc:=z15 d'[r]! d'[a]!
   rw[zAi (hex2 (by omega))] at hc
   have ih':=ih (q+1,r-1,Go.Sort.swp d' q r) ⟨by simp only;omega,by simp only;omega,by simp only;omega,by simp only;omega,by simp only;omega,i6⟩ (by simp only;omega)
   simp only at ih'
   generalize Go.Sort.swp d' q r=d2 at *
   generalize (d'.setIfInBounds q d'[r]!)=d1 at *
   clear ih i6
   repeat' (first|(apply z0c;(first|refine z0f (z0i (u:=z11 d'[a]!) ga) rfl rfl ?_| refine z0f (z0i (u:=z11 d'[q]!) g0) rfl rfl ?_| refine z0f (z0i (u:=z11 d'[r]!) gc) rfl rfl ?_))|(apply z05;(refine z0f (z1c rfl (by simp only[zA4,zAe];omega)) rfl rfl ?_))|(apply z0o;(first|refine z08 (z1a z16) rfl rfl ?_| refine z08 (z18 z16) rfl rfl ?_))|(apply z0m;(refine z3z hc ?_))|(apply z0w;(first|refine z0g d'[r]! (by first|exact rfl|exact⟨_,rfl,rfl,rfl⟩) rfl rfl rfl rfl g0 rfl rfl rfl s1 ?_|refine z0g d'[q]! (by first|exact rfl|exact⟨_,rfl,rfl,rfl⟩) rfl rfl rfl rfl g1 rfl rfl rfl s2 ?_))|refine z01 ?_|refine fk (fun _=>?_) (fun _=>?_)|(refine z19 (fun hg=>?_) (fun hg=>?_)<;> simp only[hg] <;> (try simp only[zA3,zA5,zA6,zA8] at hg)))
   all_goals try (exfalso;omega)
   all_goals rw[show ((r:Nat):Int)-1=(r-1:Nat) by omega]
   all_goals exact z00 ih' rfl rfl):p:=h
theorem zD3 {p:Prop} (h:p:=by
 refine z0d ?_
 refine z00 (z0p (fun r:Nat=>⟨84,[(0,.ref (0,1000)),(1,I .i64 (a:Nat)),(9,I .i64 (q:Nat)),(10,I .i64 (r:Nat)),(101000,.al (0,1000) (1,1000))],[(1000,rwA d')],upd H (0,1000) .gone⟩) (fun r=>r≤j∧a≤r∧Go.Sort.scanDown (eR d' a) d' q r=jr) (fun r=>r) ?_ j ⟨zAj _,i4,hjr⟩) rfl rfl
 clear hjr
 clear gq
 rintro r ⟨r1,r3,r2⟩ ihr
 by_cases hr:q≤r∧d'[a]!<d'[r]!
 · have gq:d'.toList[((r:Nat):Int).toNat]? =some d'[r]!:=z29 (by omega) (by omega)
   have hc:=z15 d'[a]! d'[r]!
   rw[zAi hr.2] at hc
   rw[zpg (by omega) hr.1 (by simp[Go.Sort.ltInt,hr.2])] at r2
   have ih':=ihr (r-1) ⟨by omega,by omega,r2⟩ (by omega)
   obtain⟨hq1,hq2⟩:=hr
   clear ih ihr
   repeat' (first|(apply z0c;(first|refine z0f (z0i (u:=z11 d'[r]!) gq) rfl rfl ?_| refine z0f (z0i (u:=z11 d'[a]!) ga) rfl rfl ?_))|(apply z05;(refine z0f (z1c rfl (by simp only[zA4,zAe];omega)) rfl rfl ?_))|(apply z0o;(refine z08 (z1a z16) rfl rfl ?_))|(apply z0m;(refine z3z hc ?_))|refine z01 ?_|refine fk (fun _=>?_) (fun _=>?_)|(refine z19 (fun hg=>?_) (fun hg=>?_)<;> simp only[hg] <;> (try simp only[zA3,zA5,zA6,zA8] at hg)))
   all_goals try (exfalso;omega)
   all_goals rw[show ((r:Nat):Int)-1=(r-1:Nat) by omega]
   all_goals exact z00 ih' rfl rfl
 clear ihr
 rw[zb0 (fun g=>hr ⟨g.1,by have:=g.2;simpa[Go.Sort.ltInt] using this⟩)] at r2
 subst r2
 have hex2:q≤r→¬ d'[a]!<d'[r]!:=fun g h=>hr ⟨g,h⟩
 by_cases hqr:r<q
 · rw[zAz hqr] at i6
   subst i6
   have hc:=z15 0 0
   clear ih
   repeat' (first|refine z01 ?_|refine fk (fun _=>?_) (fun _=>?_)|(refine z19 (fun hg=>?_) (fun hg=>?_)<;> simp only[hg] <;> (try simp only[zA3,zA5,zA6,zA8] at hg)))
   all_goals try (exfalso;omega)
   all_goals refine z2z (raw:=rwA d') 1000 0 1000 ?_
   all_goals refine z02 Tryz.func176 _ z1d ⟨rfl,?_⟩
   all_goals simp[z6b,z1i]
 · rw[zAy hqr] at i6
   have g0:d'.toList[((q:Nat):Int).toNat]? =some d'[q]!:=z29 (by omega) (by omega)
   have gc:d'.toList[((r:Nat):Int).toNat]? =some d'[r]!:=z29 (by omega) (by omega)
   have s1:d'.toList.set ((q:Nat):Int).toNat d'[r]! =(d'.setIfInBounds q d'[r]!).toList:=z2h (by omega) _
   have g1:(d'.setIfInBounds q d'[r]!).toList[((r:Nat):Int).toNat]? =some (d'.setIfInBounds q d'[r]!)[r]!:=z29 (by omega) (by simp;omega)
   have s2:(d'.setIfInBounds q d'[r]!).toList.set ((r:Nat):Int).toNat d'[q]! =(Go.Sort.swp d' q r).toList:=z2h (by omega) _
   have z1:(d'.setIfInBounds q d'[r]!).size=d'.size:=by simp
   have z2:(Go.Sort.swp d' q r).size=d'.size:=Go.Sort.swp_size _ _ _
   have ih':=ih (q+1,r-1,Go.Sort.swp d' q r) ⟨by simp only;omega,by simp only;omega,by simp only;omega,by simp only;omega,by simp only;omega,i6⟩ (by simp only;omega)
   simp only at ih'
   have hc:=z15 d'[a]! d'[r]!
   rw[zAo (hex2 (by omega))] at hc
   generalize Go.Sort.swp d' q r=d2 at *
   generalize (d'.setIfInBounds q d'[r]!)=d1 at *
   clear ih i6
   repeat' (first|(apply z0c;(first|refine z0f (z0i (u:=z11 d'[a]!) ga) rfl rfl ?_| refine z0f (z0i (u:=z11 d'[q]!) g0) rfl rfl ?_| refine z0f (z0i (u:=z11 d'[r]!) gc) rfl rfl ?_))|(apply z05;(refine z0f (z1c rfl (by simp only[zA4,zAe];omega)) rfl rfl ?_))|(apply z0o;(first|refine z08 (z1a z16) rfl rfl ?_| refine z08 (z18 z16) rfl rfl ?_))|(apply z0m;(refine z3z hc ?_))|(apply z0w;(first|refine z0g d'[r]! (by first|exact rfl|exact⟨_,rfl,rfl,rfl⟩) rfl rfl rfl rfl g0 rfl rfl rfl s1 ?_|refine z0g d'[q]! (by first|exact rfl|exact⟨_,rfl,rfl,rfl⟩) rfl rfl rfl rfl g1 rfl rfl rfl s2 ?_))|refine z01 ?_|refine fk (fun _=>?_) (fun _=>?_)|(refine z19 (fun hg=>?_) (fun hg=>?_)<;> simp only[hg] <;> (try simp only[zA3,zA5,zA6,zA8] at hg)))
   all_goals try (exfalso;omega)
   all_goals rw[show ((r:Nat):Int)-1=(r-1:Nat) by omega]
   all_goals exact z00 ih' rfl rfl):p:=h
theorem zD4 {p:Prop} (h:p:=by
 repeat' (first|(apply z04;(refine z08 (z1f (ys:=l.map rgc) rfl (idx hx)) rfl rfl ?_))|(apply z0o;(refine z08 (z1a (ze7 (by omega) (by omega))) rfl rfl ?_))|refine z01 ?_|refine fk (fun _=>?_) (fun _=>?_))
 all_goals try (exfalso;omega)
 have hch:(.d (.slice [[z11 f],[z11 (f-32)],[z11 (f-80)]]):PV)=.d (.slice (vs.map fun x=>[z11 x])):=by rw[hvs];rfl
 refine y1f 37 hch rfl ?_
 refine z0d ?_
 refine z00 (z0p (fun j:Nat=>⟨61,[(1,.d (.lit (.int .i32 c))),(2,B true),(7,I .i32 f),(9,.ptr (0,9) 0),(14,.d (rgs l)),(15,I .i64 l.length),(16,I .i64 (i:Nat)),(37,.d (.slice (vs.map fun x=>[z11 x]))),(38,I .i64 3),(39,I .i64 (j:Nat))],[(9,.box [.d (z11 r.1),.d (z11 r.2)])],H⟩) (fun j=>j≤3∧(vs.drop j).any Q=vs.any Q) (fun j=>3-j) ?_ 0 ⟨zAf _,rfl⟩) rfl rfl
 rintro j ⟨hj,hJ⟩ ihj
 by_cases hlj:j<3
 · obtain⟨x,hv⟩:∃ x,vs[j]? =some x:=⟨_,zA0 (by rw[hvs];simpa using hlj)⟩
   rw[drop_cons hv,List.any_cons] at hJ
   have hxb:f-80≤x∧x≤f:=by
    rw[hvs] at hv
    have:=zA2 hv
    simp at this;omega
   have hfx:=za5 x (by omega) (by omega)
   obtain⟨y,hy⟩:∃ y,z5t x=y:=⟨_,rfl⟩
   rw[hy] at hfx
   have hQx:Q x=(decide (y=f)&&decide (r.1≤x)&&decide (x≤r.2)):=by rw[← hQ,← hy]
   by_cases hq:y=f∧r.1≤x∧x≤r.2
   · rw[hQx,zAi hq.1,zAi hq.2.1,zAi hq.2.2] at hJ
     rw[rv3,hvs',hQ,← hJ] at hI
     simp only[Bool.and_self,Bool.true_or] at hI
     rw[← hI]
     repeat' (first|(apply z04;(refine z08 (z1f (ys:=vs.map fun x=>[z11 x]) rfl (idx hv)) rfl rfl ?_))|(apply z03;(refine z1n hfx ?_))|refine z01 ?_|refine fk (fun _=>?_) (fun _=>?_))
     all_goals try (exfalso;omega)
     all_goals exact z02 Tryz.func136 _ z1d ⟨rfl,rfl⟩
   · have hq0:(decide (y=f)&&decide (r.1≤x)&&decide (x≤r.2))=false:=by
      rw[Bool.and_assoc,Bool.and_eq_false_iff,Bool.and_eq_false_iff,zA5,zA5,zA5];omega
     rw[hQx,hq0,Bool.false_or] at hJ
     have ihj':=ihj (j+1) ⟨by omega,hJ⟩ (by omega)
     repeat' (first|(apply z04;(refine z08 (z1f (ys:=vs.map fun x=>[z11 x]) rfl (idx hv)) rfl rfl ?_))|(apply z03;(refine z1n hfx ?_))|refine z01 ?_|refine fk (fun _=>?_) (fun _=>?_))
     all_goals try (exfalso;omega)
     all_goals exact z00 ihj' rfl rfl
 · obtain rfl:j=3:=by omega
   have hd:vs.drop 3=[]:=by rw[hvs];rfl
   rw[hd,List.any_nil] at hJ
   rw[rv3,hvs',hQ,← hJ,Bool.false_or] at hI
   have ih':=ih (i+1) ⟨by omega,hI⟩ (by omega)
   repeat' (first|refine z01 ?_|fail)
   all_goals try (exfalso;omega)
   all_goals exact z00 ih' rfl rfl):p:=h
theorem zD5 {p:Prop} (h:p:=by
 intro k k1 ihk
 by_cases hk:k<L.length
 · obtain⟨u,hu⟩:∃ u,L[k]? =some u:=⟨_,zA0 hk⟩
   have hT:((L.take k).map okf).length=k:=by rw[zA4,zAm];omega
   have hall:((L.take k).map okf++L.drop k).length=L.length:=by rw[zAa,hT,List.length_drop];omega
   have hix:((L.take k).map okf++L.drop k)[((k:Nat):Int).toNat]? =some u:=by
    rw[zA9,zAg (by omega),hT,Nat.sub_self,List.getElem?_drop,Nat.add_zero];exact hu
   have hse:((L.take k).map okf++L.drop k).set ((k:Nat):Int).toNat (okf u)=(L.take (k+1)).map okf++L.drop (k+1):=by
    rw[zA9,List.set_append_right _ _ (by omega),hT,Nat.sub_self,drop_cons hu,List.set_cons_zero,z62 hu,List.map_append,zAl];rfl
   have hmap:(((L.take k).map okf++L.drop k).map uqc).length=L.length:=by rw[zA4];exact hall
   have ihk':=ihk (k+1) (by omega) (by omega)
   obtain⟨u1,u2,u3,u4⟩:=u
   by_cases hbad:u1=65533
   · have hok:okf (u1,u2,u3,u4)=(u1,u2,u3,decide (u3=3)):=by simp[okf,hbad]
     rw[hok] at hse
     repeat' (first|(apply z13;(first|refine z08 (z0i (u:=z11 u1) hix) rfl rfl ?_| refine z08 (z0i (u:=z2g u3) hix) rfl rfl ?_))|(apply z04;(refine z08 (z8t rfl) rfl rfl ?_))|(apply z1q;(refine zch ((u1,u2,u3,decide (u3=3)):Uq) hix hse ?_))|refine z01 ?_|refine fk (fun _=>?_) (fun _=>?_))
     all_goals try (exfalso;omega)
     all_goals exact z00 ihk' rfl rfl
   · have hok:okf (u1,u2,u3,u4)=(u1,u2,u3,true):=by simp[okf,hbad]
     rw[hok] at hse
     repeat' (first|(apply z13;(first|refine z08 (z0i (u:=z11 u1) hix) rfl rfl ?_| refine z08 (z0i (u:=z2g u3) hix) rfl rfl ?_))|(apply z04;(refine z08 (z8t rfl) rfl rfl ?_))|(apply z1q;(refine zch ((u1,u2,u3,true):Uq) hix hse ?_))|refine z01 ?_|refine fk (fun _=>?_) (fun _=>?_))
     all_goals try (exfalso;omega)
     all_goals exact z00 ihk' rfl rfl
 · obtain rfl:k=L.length:=by omega
   rw[List.take_length,zAs,List.append_nil]
   repeat' (first|refine z01 ?_|refine fk (fun _=>?_) (fun _=>?_))
   all_goals try (exfalso;omega)
   refine z0z 1000 rfl ?_
   exact z02 Tryz.func49 _ z1d ⟨rfl,rfl⟩):p:=h
theorem zD6 {p:Prop} (h:p:=by
 rintro k ⟨i1,i2⟩ ih
 by_cases hlt:k<W.length
 · have hw:=z43 hlt
   by_cases hc:ltS (wd W k) x=true
   · have ih':=ih (k+1) ⟨by omega,fun i hi=>by
      by_cases e:i=k
      · rw[e];exact hc
      · exact i2 i (by omega)⟩ (by omega)
     have hc':Op.bytesLess (wd W k).toList x.toList=true:=by rw[zdd];exact hc
     repeat' (first|(apply z04;(refine z08 (z1f (ys:=W.map stc) rfl (idx hw)) rfl rfl ?_))|(apply z05;(refine z0f (z1f (ys:=W.map stc) rfl (idx hw)) rfl rfl ?_))|refine z01 ?_|refine fk (fun _=>?_) (fun _=>?_)|(refine z19 (fun hg=>?_) (fun hg=>?_)<;> simp only[hg] <;> (try simp only[zA3,zA5,zA6,zA8] at hg)))
     all_goals try (exfalso;first|omega|(simp[hc'] at *;done))
     all_goals exact z00 ih' rfl rfl
   · have hlo:loS W x=k:=zrv h x (by omega) i2 (fun _=>by simpa using hc)
     have hc':Op.bytesLess (wd W k).toList x.toList=false:=by rw[zdd];simpa using hc
     have hf:zki W x=decide (wd W k=x):=by rw[zki,hlo];simp[hlt]
     rw[hf,hlo]
     clear ih
     repeat' (first|(apply z04;(refine z08 (z1f (ys:=W.map stc) rfl (idx hw)) rfl rfl ?_))|(apply z05;(refine z0f (z1f (ys:=W.map stc) rfl (idx hw)) rfl rfl ?_))|refine z01 ?_|refine fk (fun _=>?_) (fun _=>?_)|(refine z19 (fun hg=>?_) (fun hg=>?_)<;> simp only[hg] <;> (try simp only[zA3,zA5,zA6,zA8] at hg)))
     all_goals try (exfalso;first|omega|(simp[hc'] at *;done))
     all_goals exact z02 Tryz.func81 _ z2j ⟨rfl,rfl⟩
 · obtain rfl:k=W.length:=by omega
   have hlo:loS W x=W.length:=zrv h x (by omega) i2 (fun h=>absurd h (Nat.lt_irrefl _))
   have hf:zki W x=false:=by rw[zki,hlo];simp
   rw[hf,hlo]
   clear ih
   repeat' (first|refine z01 ?_|refine fk (fun _=>?_) (fun _=>?_)|(refine z19 (fun hg=>?_) (fun hg=>?_)<;> simp only[hg] <;> (try simp only[zA3,zA5,zA6,zA8] at hg)))
   all_goals try (exfalso;first|omega|(simp at *;done))
   all_goals exact z02 Tryz.func81 _ z2j ⟨rfl,rfl⟩):p:=h
theorem zD7 {p:Prop} (h:p:=by
 rw[zAz hqr] at hR
 have g0:d'.toList[((r:Nat):Int).toNat]? =some d'[r]!:=z29 (by omega) (by omega)
 have gc:d'.toList[((a:Nat):Int).toNat]? =some d'[a]!:=z29 (by omega) (by omega)
 have s1:d'.toList.set ((r:Nat):Int).toNat d'[a]! =(d'.setIfInBounds r d'[a]!).toList:=z2h (by omega) _
 have g1:(d'.setIfInBounds r d'[a]!).toList[((a:Nat):Int).toNat]? =some (d'.setIfInBounds r d'[a]!)[a]!:=z29 (by omega) (by simp;omega)
 have s2:(d'.setIfInBounds r d'[a]!).toList.set ((a:Nat):Int).toNat d'[r]! =(Go.Sort.swp d' r a).toList:=z2h (by omega) _
 have z1:(d'.setIfInBounds r d'[a]!).size=d'.size:=by simp
 have z2:(Go.Sort.swp d' r a).size=d'.size:=Go.Sort.swp_size _ _ _
 have hc:=z15 0 0
 subst hR
 generalize Go.Sort.swp d' r a=d2 at *
 generalize (d'.setIfInBounds r d'[a]!)=d1 at *
 repeat' (first|(apply z0c;(first|refine z0f (z0i (u:=z11 d'[a]!) ga) rfl rfl ?_| refine z0f (z0i (u:=z11 d'[r]!) g0) rfl rfl ?_))|(apply z05;(refine z0f (z1c rfl (by simp only[zA4,zAe];omega)) rfl rfl ?_))|(apply z0w;(first|refine z0g d'[a]! (by first|exact rfl|exact⟨_,rfl,rfl,rfl⟩) rfl rfl rfl rfl g0 rfl rfl rfl s1 ?_|refine z0g d'[r]! (by first|exact rfl|exact⟨_,rfl,rfl,rfl⟩) rfl rfl rfl rfl g1 rfl rfl rfl s2 ?_))|refine z01 ?_|refine fk (fun _=>?_) (fun _=>?_)|(refine z19 (fun hg=>?_) (fun hg=>?_)<;> simp only[hg] <;> (try simp only[zA3,zA5,zA6,zA8] at hg)))
 all_goals try (exfalso;omega)
 all_goals refine z2z (raw:=rwA d2) 1000 0 1000 ?_
 all_goals refine z02 Tryz.func177 _ z2j ⟨rfl,?_⟩
 all_goals simp[z6b,z1i]):p:=h
theorem zD8 {p:Prop} (h:p:=by
 all_goals try (exfalso;omega)
 all_goals exact z00 ih' rfl rfl):p:=h
theorem zD9 {p:Prop} (h:p:=by
 rw[zAi hgd.1,zAi hgd.2.1,zAi hgd.2.2,Bool.true_and,Bool.true_and,Bool.true_and] at i3
 rcases i2 with ⟨rfl,rfl⟩|⟨hi,p,hp,rfl,hp0,hp1⟩
 · repeat' (first|(apply z04;(refine z08 (z1f (ys:=l.map rgc) rfl (idx hr)) rfl rfl ?_))|refine z01 ?_|refine fk (fun _=>?_) (fun _=>?_)|(refine z19 (fun hg=>?_) (fun hg=>?_)<;> simp only[hg] <;> (try simp only[zA3,zA5,zA6,zA8] at hg)))
   all_goals try (exfalso;omega)
   all_goals exact z00 (ih (1,r.2+2) ⟨by simp only;omega,.inr ⟨by simp,r,hr,rfl,by omega,hgd.2.2⟩,i3⟩ (by simp only;omega)) rfl rfl
 · have hp':l[((i:Int)-1).toNat]? =some p:=by rw[← hp];congr 1;omega
   repeat' (first|(apply z04;(refine z08 (z1f (ys:=l.map rgc) rfl (idx hr)) rfl rfl ?_))|(apply z05;(refine z0f (z1f (ys:=l.map rgc) rfl (ztb hp')) rfl rfl ?_))|(apply z1e;(refine z0f (z18 (ze7 (by omega) (by omega))) rfl rfl ?_))|refine z01 ?_|refine fk (fun _=>?_) (fun _=>?_)|(refine z19 (fun hg=>?_) (fun hg=>?_)<;> simp only[hg] <;> (try simp only[zA3,zA5,zA6,zA8] at hg)))
   all_goals try (exfalso;omega)
   all_goals exact z00 (ih (i+1,r.2+2) ⟨by simp only;omega,.inr ⟨by simp,r,by simpa using hr,rfl,by omega,hgd.2.2⟩,i3⟩ (by simp only;omega)) rfl rfl):p:=h
theorem zD10 {p:Prop} (h:p:=by
 skip
 repeat' (first|(apply z0o;(first|refine z08 (z18 z16) rfl rfl ?_| refine z08 (z1a z16) rfl rfl ?_| refine z08 (z6w z16) rfl rfl ?_| refine z08 (zaq (by omega) (by decide) z16) rfl rfl ?_))|(apply z03;(first|refine z2i e rfl rfl rfl (by decide) ?_|refine z2i e3 rfl rfl rfl (by decide) ?_|refine z2i e2 rfl rfl rfl (by decide) ?_|refine z2i e1 rfl rfl rfl (by decide) ?_))|(apply z2d;((refine z0h z5o ?_;refine zgp 9 900 rfl rfl ?_)))|refine z01 ?_|refine fk (fun _=>?_) (fun _=>?_))
 all_goals try (exfalso;omega)
 all_goals refine z2z (raw:=rwA d) 1000 0 1000 ?_
 all_goals exact z02 Tryz.func172 _ z2j ⟨rfl,zhu hX⟩):p:=h
theorem zD11 {p:Prop} (h:p:=by
 have he:Ext w own { w with heap:=w.heap.setIfInBounds r (.map cur'.toArray clock') } own:=by
  refine⟨rfl,rfl,rfl,by simp,fun b hb hno=>?_,fun _ _ h=>h⟩
  have:b≠r:=fun e=>hno (e▸ho)
  simp[Ne.symm this]
 have hbr:BR β { w with heap:=w.heap.setIfInBounds r (.map cur'.toArray clock') } own (β (0,ms)) (atF (0,ms) (.mp ((zbd q a v).map fun p=>(g p.1,p.2)))):=by
  rw[hβ]
  refine .mp r clock' _ cur' ho (by simp[hlt]) (by simpa using hl') (fun j x m hx hm=>?_) hbn' hc'
  obtain⟨y,hy,rfl⟩:=znb hx
  obtain⟨e1,e2,e3⟩:=hd' j y m hy hm
  exact⟨e1,e2,e3.mono he⟩
 have hheap:=hr.heap.change (raw:=.mp ((zbd q a v).map fun p=>(g p.1,p.2))) hlook rfl he (by simp) (fun g' hg'=>by
  have:g'≠r:=fun e=>hg' (by rw[hβ,e];rfl)
  simp[Ne.symm this]) hbr
 refine⟨.skip,undef,_,β,own,?_,.inr ⟨rfl,rfl⟩,?_,he,rfl⟩
 · cases insert <;> simp only[execOp,ex',ey,hzv,Bool.false_eq_true,if_false,if_true] <;> simp[hrun]
 · refine⟨?_,hr.defers,fun t q hq=>?_,?_⟩
   · rw[(z3v s (0,ms) _).2.1];exact hr.size
   · rw[(z3v s (0,ms) _).1] at hq;exact(hr.tm t q hq).mono he
   · rw[z2a];exact hheap):p:=h
theorem zD12 {p:Prop} (h:p:=by
 generalize hv:a.tmps.getD t undef=v at hp
 cases hp with
 | ptr _ _ g' hg' =>
  rw[hβ] at hg';simp at hg';subst hg'
  have hlen:cur.length=ti.size:=by rw[← hl,zA4,hs]
  have:=z0s (P:=P) hty g 0 cur w hlen (fun j v hj=>by
   rw[Nat.zero_add,cell_of_row w g j _ tt (0,0) hg];simpa using hj)
  rcases this with h'|h'
  · have hv2:a.tmps[t]?.getD undef=.pointer (some ⟨g,0,none⟩):=by rw[← Array.getD_eq_getD_getElem?];exact hv
    simp[results,h,hv2,asAddr,h',ha]
  · rw[ha] at h';cases h'.1):p:=h
theorem zD13 {p:Prop} (h:p:=by
 have z1:(d'.setIfInBounds i d'[y]!).size=d'.size:=by simp
 generalize Go.Sort.swp d' i y=d2 at *
 generalize (d'.setIfInBounds i d'[y]!)=d1 at *
 repeat' (first|(apply z0c;(first|refine z0f (z0i (u:=z11 d'[i]!) g0) rfl rfl ?_| refine z0f (z0i (u:=z11 d'[y]!) gc) rfl rfl ?_))|(apply z05;(refine z0f (z1c rfl (by simp only[zA4,zAe];omega)) rfl rfl ?_))|(apply z0o;(first|refine z08 (zaq (by omega) (by decide) z16) rfl rfl ?_| refine z08 (z6w z16) rfl rfl ?_| refine z08 z3u rfl rfl ?_| refine z08 (z1a (zm9 (by omega) (by omega))) rfl rfl ?_| refine z08 (z1a z16) rfl rfl ?_| refine z08 (z18 z16) rfl rfl ?_))|(apply z1e;(refine z0f (z18 z16) rfl rfl ?_))|(apply z03;(refine z4j hx ?_))|(apply z0w;(first|refine z0g d'[y]! (by first|exact rfl|exact⟨_,rfl,rfl,rfl⟩) rfl rfl rfl rfl g0 rfl rfl rfl s1 ?_|refine z0g d'[i]! (by first|exact rfl|exact⟨_,rfl,rfl,rfl⟩) rfl rfl rfl rfl g1 rfl rfl rfl s2 ?_))|(apply z3t;(refine z08 (z8k rfl rfl z16) rfl rfl ?_))|refine z01 ?_|refine fk (fun _=>?_) (fun _=>?_))
 all_goals exact zD8):p:=h
theorem zD14 {p:Prop} (h:p:=by
 all_goals try (exfalso;omega)
 all_goals refine z2k 601 603 rfl (z07 (z07 (z07 hG1 (by simp)) (by simp)) (by simp)) (Or.inl rfl) rfl (Quiet.upd (Quiet.upd (Quiet.upd hQ1 rfl) rfl) rfl) ?_
 all_goals refine z2k 602 604 rfl (z07 (z07 (z07 (z07 hG2 (by simp)) (by simp)) (by simp)) (by simp)) (Or.inr rfl) rfl (Quiet.upd (Quiet.upd (Quiet.upd (Quiet.upd hQ2 rfl) rfl) rfl) rfl) ?_
 all_goals refine z2z (raw:=bbx 603 604) 600 0 600 ?_
 all_goals refine z02 Tryz.func132 _ (z2t rfl rfl rfl rfl rfl rfl) ⟨rfl,rfl⟩):p:=h
theorem zD15 {p:Prop} (h:p:=by
 all_goals try (exfalso;omega)
 all_goals refine z2k 601 603 rfl (z07 (z07 (z07 hG1 (by simp)) (by simp)) (by simp)) (Or.inl rfl) rfl (Quiet.upd (Quiet.upd (Quiet.upd hQ1 rfl) rfl) rfl) ?_
 all_goals refine z2k 602 604 rfl (z07 (z07 (z07 (z07 hG2 (by simp)) (by simp)) (by simp)) (by simp)) (Or.inr rfl) rfl (Quiet.upd (Quiet.upd (Quiet.upd (Quiet.upd hQ2 rfl) rfl) rfl) rfl) ?_
 all_goals refine z2z (raw:=bbx 603 604) 600 0 600 ?_
 all_goals refine z02 Tryz.func92 _ (z2t rfl rfl rfl rfl rfl rfl) ⟨rfl,rfl⟩):p:=h
theorem zD16 {p:Prop} (h:p:=by
 have gq:d'.toList[((r:Nat):Int).toNat]? =some d'[r]!:=z29 (by omega) (by omega)
 have hc:=z15 d'[r]! d'[a]!
 rw[zAo hr.2] at hc
 rw[zpg (by omega) hr.1 (by simp[Go.Sort.ltInt,hr.2])] at r2
 have ih':=ihr (r-1) ⟨by omega,by omega,r2⟩ (by omega)
 obtain⟨hq1,hq2⟩:=hr
 clear ihr
 repeat' (first|(apply z0c;(first|refine z0f (z0i (u:=z11 d'[r]!) gq) rfl rfl ?_| refine z0f (z0i (u:=z11 d'[a]!) ga) rfl rfl ?_))|(apply z05;(refine z0f (z1c rfl (by simp only[zA4,zAe];omega)) rfl rfl ?_))|(apply z0o;(refine z08 (z1a z16) rfl rfl ?_))|(apply z0m;(refine z3z hc ?_))|refine z01 ?_|refine fk (fun _=>?_) (fun _=>?_)|(refine z19 (fun hg=>?_) (fun hg=>?_)<;> simp only[hg] <;> (try simp only[zA3,zA5,zA6,zA8] at hg)))
 all_goals try (exfalso;omega)
 all_goals rw[show ((r:Nat):Int)-1=(r-1:Nat) by omega]
 all_goals exact z00 ih' rfl rfl):p:=h
theorem zD17 {p:Prop} (h:p:=by
 repeat' (first|(apply z0c;(first|refine z0f (z0i (u:=z11 d'[q]!) gq) rfl rfl ?_| refine z0f (z0i (u:=z11 d'[a]!) ga) rfl rfl ?_))|(apply z05;(refine z0f (z1c rfl (by simp only[zA4,zAe];omega)) rfl rfl ?_))|(apply z0o;(refine z08 (z18 z16) rfl rfl ?_))|(apply z0m;(refine z3z hc ?_))|refine z01 ?_|(refine z19 (fun hg=>?_) (fun hg=>?_)<;> simp only[hg] <;> (try simp only[zA3,zA5,zA6,zA8] at hg)))
 all_goals exact zD8):p:=h
theorem zD18 {p:Prop} (h:p:=by
 repeat' (first | (apply zv0; (first | refine z0f (zfl rfl hc1) rfl rfl ?_| refine z0f (zfl rfl hc2) rfl rfl ?_)) | (apply z0o; (refine z08 (y1l n0 (by decide) hk) rfl rfl ?_)) | (apply z1k; (refine z08 (zhx rfl) rfl rfl ?_)) | (apply z03; (first | refine zcf s1 ?_| refine z1n hlo ?_| (refine z9n rfl (hb _) (by decide) rfl (fun r H' h => ⟨_, _, _, h.1, h.2, rfl, rfl, ?_⟩)) /- z5h -/ | refine z1n q1 ?_| refine z1n s2 ?_)) | (apply z0m; (first | refine zcz haw (by first | exact rfl | exact ⟨_, rfl, rfl, rfl⟩) rfl rfl (by decide) ?_ | refine z3z t1 ?_| refine z3z m1 ?_| refine z3z m2 ?_)) | (apply z2d; (refine z0h z5o ?_)) | refine z01 ?_ | refine fk (fun _ => ?_) (fun _ => ?_))
 all_goals try (exfalso;first|omega|(simp at *;done))
 all_goals refine z5f (raw:=.glob 1 τ.o0) 700 0 700 (z07 (z0y _ (0,700) _) (by simp)) ?_
 all_goals refine z5f (raw:=.glob 2 τ.o1) 701 0 701 (z07 (z0y _ (0,701) _) (by simp)) ?_
 all_goals exact z02 Tryz.func5 _ z1d ⟨rfl,z7m hX0 hX1⟩):p:=h
theorem zD19 {p:Prop} (h:p:=by
 rw[← i2]
 clear ih i2
 repeat' (first|(apply z0c;(first|refine z0f (z0i (u:=z11 d'[F+(2*r+1)]!) ga) rfl rfl ?_| refine z0f (z0i (u:=z11 d'[F+(2*r+2)]!) gb) rfl rfl ?_| refine z0f (z0i (u:=z11 d'[F+r]!) g0) rfl rfl ?_))|(apply z05;(refine z0f (z1c rfl (by simp only[zA4,zAe];omega)) rfl rfl ?_))|(apply z0o;(first|refine z08 (z6w z16) rfl rfl ?_| refine z08 (z18 z16) rfl rfl ?_))|(apply z1e;(refine z0f (z18 z16) rfl rfl ?_))|(apply z0m;(first|refine z3z hc1 ?_| refine z3z hc0 ?_))|refine z01 ?_|refine fk (fun _=>?_) (fun _=>?_)|(refine z19 (fun hg=>?_) (fun hg=>?_)<;> simp only[hg] <;> (try simp only[zA3,zA5,zA6,zA8] at hg)))
 all_goals try (exfalso;omega)
 all_goals refine z2z (raw:=rwA d') 1000 0 1000 ?_
 all_goals refine z02 Tryz.func199 _ (z1o rfl) ⟨rfl,?_⟩
 all_goals simp[z6b,z1i]):p:=h
theorem zD20 {p:Prop} (h:p:=by
 refine⟨fun m c hm=>?_,fun m1 m2 c1 c2 e1 e2 l1 l2 hn g hg'=>?_,h2.lt⟩
 · cases hc:c.live with
   | false=>cases c <;> first|(simp[Blk.live] at hc;done)|exact .gone _
   | true =>
    rcases key m c hm hc with ⟨rfl,rfl⟩|⟨_,_,h3⟩
    · rw[hsame];exact h2.blk _ _ hrow
    · exact h2.blk m c h3
 · rcases key m1 c1 e1 l1 with ⟨rfl,rfl⟩|⟨n1,n1',h3⟩
   · rcases key m2 c2 e2 l2 with ⟨rfl,rfl⟩|⟨n2,n2',h4⟩
     · exact absurd rfl hn
     · rw[hsame] at hg'
       exact h2.inj (0,y) m2 _ c2 hrow h4 l1 l2 (Ne.symm n2') g hg'
   · rcases key m2 c2 e2 l2 with ⟨rfl,rfl⟩|⟨n2,n2',h4⟩
     · rw[hsame]
       exact h2.inj m1 (0,y) c1 _ h3 hrow l1 l2 n1' g hg'
     · exact h2.inj m1 m2 c1 c2 h3 h4 l1 l2 hn g hg'):p:=h
theorem zD21 {p:Prop} (h:p:=by
 have hX:H 0 1000=some (rwA d):=hH ((0,1000),rwA d) (by simp)
 refine z06 Tryz.func172 (by kernel_rfl) rfl (by simp) ?_
 dsimp only[Tryz.f172]
 refine z1g 1000 0 1000 hX rfl rfl ?_
 repeat' (first|(apply z0o;(first|refine z08 (z18 z16) rfl rfl ?_| refine z08 (z1a z16) rfl rfl ?_| refine z08 (z6w z16) rfl rfl ?_| refine z08 (zaq (by omega) (by decide) z16) rfl rfl ?_))|(apply z03;(refine z2i e rfl rfl rfl (by decide) ?_))|(apply z2d;((refine z0h z5o ?_;refine zgp 9 900 rfl rfl ?_)))|refine z01 ?_|refine fk (fun _=>?_) (fun _=>?_))
 all_goals try (exfalso;omega)
 all_goals refine z2z (raw:=rwA d) 1000 0 1000 ?_
 all_goals exact z02 Tryz.func172 _ z2j ⟨rfl,zhu hX⟩):p:=h
theorem zD22 {p:Prop} (h:p:=by
 rw[his]
 simp only[madeCells,Array.getElem?_toList,Array.getElem?_map]
 rw[Array.getElem?_range]
 simp only[hlt,if_true,Option.map_some,hzsz]
 have hmod:(i'*te.size+j) % te.size=j:=by rw[Nat.add_comm,Nat.add_mul_mod_self_right];exact Nat.mod_eq_of_lt hj
 rw[hmod,← hzc,Array.getElem?_toList,getElem!_pos z.cells j (by omega),Array.getElem?_eq_getElem (by omega)]):p:=h
theorem zD23 {p:Prop} (h:p:=by
 have hdone:=h rest hrest β' own' _ w' hrep' b hb hk (by rw[hout];exact hn) cs
 rw[hout] at hdone
 refine(hdone.ext hext).of_steps (.one (step_lone_go ?_))
 have hgo:=stepGR_op (P:=P) (b:=b) (a:={ a with defers:=b.defers }) (k:=k) (cs:=cs) (w:=w) (rest:=rest) ho hw
 have hfin:∀ v,(am b a (.inRegion all (i::rest)::k)).finish v=am b (a.put o.dst v) (.inRegion all rest::k):=by
  intro v;rw[z5z,ho];rfl
 have hsem:=z6c (ro:=b.roundOf) hrun (by rcases hnx with rfl|⟨rfl,_⟩ <;> simp)
 rw[← z7s b a] at hsem
 rw[show am b a (.inRegion all (i::rest)::k)=b.atR { a with defers:=b.defers } (.inRegion all (i::rest)::k) from rfl] at hfin ⊢
 rw[hgo,← hfin]
 rcases hnx with rfl|⟨rfl,rfl⟩ <;> simp[stepG.apply,hsem]):p:=h
theorem zD24 {p:Prop} (h:p:=by
 rw[← hto] at c2
 repeat' (first|(apply z4o;(refine z0f (z95 rfl (by omega) (by omega)) rfl rfl ?_))|(apply z03;(refine z71 hst1 rfl (z1m (m:=(0,20)) rfl z5c) (by decide) ?_))|(apply z3t;(refine z08 (zdc hes0 rfl rfl) rfl rfl ?_))|refine z01 ?_|refine fk (fun _=>?_) (fun _=>?_)|(apply z10;(refine z1p hlt2 rfl rfl (by decide) ?_))|(refine z19 (fun hg=>?_) (fun hg=>?_)<;> simp only[hg] <;> (try simp only[zA3,zA5,zA6,zA8] at hg)))
 all_goals try (exfalso;omega)
 all_goals try (exfalso;simp_all;done)
 all_goals exact z00 ih2 rfl rfl):p:=h
theorem zD25 {p:Prop} (h:p:=by
 intro hp h1 q1
 have qq:∀ x,z1y (0,x) hp=true→z6t (push hp H) (0,x):=fun x q e t b he hb=>by
  obtain rfl:e=0:=by simp at he;omega
  exact z2r q hb
 have:=zfz s (push hp H) h1 (qq 901 q1)
 rw[z9l] at this
 exact this):p:=h
theorem zD26 {p:Prop} (h:p:=by
 intro j x m hx hm
 rw[z7z q a v h1] at hx
 by_cases hj:j<q.length
 · rw[zAb hj] at hx
   rw[zAb (by omega)] at hm
   exact hd j (g x.1,x.2) m (by rw[zAd,hx];rfl) hm
 · have hj2:=(zA1.1 hx).1
   simp at hj2
   obtain rfl:j=q.length:=by omega
   rw[zAg (zAj _)] at hx
   rw[zAg (by omega),hlen] at hm
   simp at hx hm;subst hx;subst hm
   exact⟨rfl,hz1.1,hz1.2⟩):p:=h
theorem zD27 {p:Prop} (h:p:=by
 repeat' (first|(apply z0o;(refine z08 z8c rfl rfl ?_))|(apply z03;(refine zmf hl rfl hX hZ (by decide) ?_))|refine z01 ?_|fail)
 all_goals exact z02 Tryz.func131 _ (z2t rfl rfl rfl rfl rfl rfl) ⟨by first|rfl|(dsimp only[ptc];rw[← ho2];rfl)|(dsimp only[ptc];rw[← ho1];rfl)|(dsimp only[ptc];rw[← ho1,← ho2];rfl),rfl⟩):p:=h
theorem zD28 {p:Prop} (h:p:=by
 repeat' (first|(apply z04;(first|refine z08 (z1f (ys:=lv.map fun r=>[rgs r]) rfl (idx (g:=fun r=>[rgs r]) hr)) rfl rfl ?_| refine z08 (z1f (ys:=pts.map rcc) rfl (idx (g:=rcc) hx)) rfl rfl ?_))|(apply z05;(refine z0f (z1f (ys:=pts.map rcc) rfl (idx (g:=rcc) hx)) rfl rfl ?_))|(apply z0o;(first|refine z08 (z8d (by omega)) rfl rfl ?_| refine z08 z3u rfl rfl ?_))|(apply z1e;(first|refine z0f (zik (by omega)) rfl rfl ?_| refine z0f z8c rfl rfl ?_))|(apply z03;(refine z1n hcl ?_))|refine z01 ?_|refine fk (fun _=>?_) (fun _=>?_))
 all_goals try (exfalso;omega)
 all_goals exact z00 ihn' rfl rfl):p:=h
theorem zD29 {p:Prop} (h:p:=by
 simp only[exR] at hex
 simp only[y5u]
 refine z06 Tryz.func21 (by kernel_rfl) rfl (by simp) ?_
 dsimp only[Tryz.f21]
 repeat' (first | (apply z10; (refine z9x rfl rfl (by decide) ?_)) | (apply z03; (first | refine zcf hex ?_| refine z1n hval ?_| (refine za7 rfl (hof _) (by decide) rfl (fun r H' h => ⟨_, h.1, h.2, rfl, rfl, ?_⟩)) /- z5h -/)) | (apply z2c; (refine z0h z4x ?_)) | refine z01 ?_ | fail)
 all_goals try (exfalso;first|omega|(simp at *;done)|(simp at *;omega))
 all_goals exact z02 Tryz.func21 _ (z0r rfl rfl rfl rfl rfl rfl rfl) ⟨rfl,rfl⟩):p:=h
theorem zD30 {p:Prop} (h:p:=by
 refine⟨fun m c hc=>?_,fun m1 m2 c1 c2 e1 e2 l1 l2 hn=>?_,hr.heap.lt⟩
 · by_cases hm:m=(md+1,ms)
   · subst hm
     rw[hgone] at hc;simp at hc;subst hc;exact .gone _
   · rw[hne m hm];exact(hr.heap.blk m c hc).reβ (md+1,ms) hne (hold m c hc)
 · have hg1:∀ m c,z0a (push hp up) m=some c→c.live=true→m≠(md+1,ms):=by
    rintro m c hc hl rfl
    rw[hgone] at hc;simp at hc;subst hc;cases hl
   rw[hne m1 (hg1 m1 c1 e1 l1),hne m2 (hg1 m2 c2 e2 l2)]
   exact hr.heap.inj m1 m2 c1 c2 e1 e2 l1 l2 hn):p:=h
theorem zD31 {p:Prop} (h:p:=by
 refine⟨_,.slice (some ⟨w.heap.size,0,none⟩) a.toNat a.toNat,_,z3y β d (.slice (some ⟨w.heap.size,0,none⟩) a.toNat a.toNat),_,?_,.inl rfl,?_,hE,z1r _ _ _⟩
 · simp only[execOp,(hr.ev hx).lit,(hr.ev hy).lit]
   simp[hrun]
 · have hp':=PR.ref (β:=z3y β d (.slice (some ⟨w.heap.size,0,none⟩) a.toNat a.toNat)) (w:=w.alloc (.cells (madeCells z.cells (a.toNat*i.size)) e)) (own:=fun g=>own g∨g=w.heap.size) (0,d)
   rw[z0x] at hp'
   exact hin.put (dst:=some d) (p:=.ref (0,d)) (by simpa[St.fits] using hd) hp'):p:=h
theorem zD32 {p:Prop} (h:p:=by
 refine z0d ?_
 refine z00 (z0p (fun r:Nat × Array Int=>⟨133,[(0,.ref (0,1000)),(1,I .i64 (a:Nat)),(2,I .i64 (b:Nat)),(7,I .i64 (q:Nat)),(8,I .i64 (j:Nat)),(10,I .i64 (r.1:Nat)),(101000,.al (0,1000) (1,1000))],[(1000,rwA r.2)],upd H (0,1000) .gone⟩) (fun r=>r.2.size=d.size∧q<r.1∧r.1≤b∧Go.Sort.shiftUp Go.Sort.ltInt b r.1 r.2=D4) (fun r=>b-r.1) ?_ (q+1,e3) ⟨hz3,by simp only;omega,by simp only;omega,hD4⟩) rfl rfl
 exact zD1):p:=h
theorem zD33 {p:Prop} (h:p:=by
 intro i x m' hx hm'
 rw[hset] at hx
 by_cases hi:i=j
 · subst hi
   rw[zAp (by omega)] at hx
   rw[zAp hjl] at hm'
   simp at hx hm';subst hx;subst hm'
   exact⟨rfl,hz1.1,hz1.2⟩
 · rw[List.getElem?_set_ne (Ne.symm hi)] at hx hm'
   exact hd i (g x.1,x.2) m' (by rw[zAd,hx];rfl) hm'):p:=h
theorem zD34 {p:Prop} (h:p:=by
 cases hr:Region.ready .any ops.toArray listed with
 | nil=>rfl
 | cons x xs =>
  rw[hr] at hi
  have hlt:tt % (x::xs).length<(x::xs).length:=Nat.mod_lt _ (by simp)
  simp at hi
  simp at hlt
  omega):p:=h
theorem zD35 {p:Prop} (h:p:=by
 have hw:RowKit.Below w.heap.size w { w with drawn:=w.drawn+1 }:=⟨rfl,rfl,rfl,zAj _,fun _ _=>rfl⟩
 have hdone:=key β own a { w with drawn:=w.drawn+1 } (hrep.below hw) b hb hk hn cs
 refine(hdone.ext (Below.ext hw own)).of_steps (.one ?_)
 have:=stepR_region_draw (P:=P) (b:=b) (a:={ a with defers:=b.defers }) (k:=k) (cs:=cs) (w:=w) (ops:=ops.toArray) (id:=id)
 refine this.trans ?_
 simp only[Region.schedule,hmix,Bool.true_or,if_true]
 rfl):p:=h
theorem zD36 {p:Prop} (h:p:=by
 repeat' (first|(apply z0o;(refine z08 (z18 (ze7 (by omega) (by omega))) rfl rfl ?_))|refine z01 ?_|refine fk (fun _=>?_) (fun _=>?_))
 all_goals try (exfalso;omega)
 all_goals exact z02 Tryz.func179 _ z1d ⟨rfl,rfl⟩):p:=h
theorem zD37 {p:Prop} (h:p:=by
 repeat' (first|(apply z04;(refine z08 (z1f (ys:=lv.map fun r=>[rgs r]) rfl hli) rfl rfl ?_))|(apply z0o;(first|refine z08 (z8d (by omega)) rfl rfl ?_| refine z08 (zik (by omega)) rfl rfl ?_| refine z08 z3u rfl rfl ?_| refine z08 z8c rfl rfl ?_))|(apply z03;(refine z1n hcl ?_))|refine z01 ?_|refine fk (fun _=>?_) (fun _=>?_))
 all_goals try (exfalso;omega)
 all_goals exact z00 ihn' rfl rfl):p:=h
theorem zD38 {p:Prop} (h:p:=by
 repeat' (first|(apply z0o;(refine z08 (z18 (ze7 (by omega) (by omega))) rfl rfl ?_))|refine z01 ?_|refine fk (fun _=>?_) (fun _=>?_))
 all_goals try (exfalso;omega)
 all_goals exact z02 Tryz.func178 _ z1d ⟨rfl,rfl⟩):p:=h
theorem zD39 {p:Prop} (h:p:=by
 all_goals try (exfalso;omega)
 all_goals exact z02 Tryz.func42 _ (z3s rfl rfl rfl rfl rfl rfl rfl rfl) ⟨rfl,rfl⟩):p:=h
theorem zD40 {p:Prop} (h:p:=by
 show PV.saysL (j,x) (PV.liftL 0 cs)=PV.saysL (j,x) cs
 have h0:∀ p:PV,p.lift 0=p:=by
  intro p
  refine PV.rec (motive_1:=fun p=>p.lift 0=p) (motive_2:=fun ps=>PV.liftL 0 ps=ps) ?_ ?_ ?_ ?_ ?_ ?_ ?_ ?_ ?_ ?_ ?_ ?_ ?_ ?_ ?_ p <;> intros <;> simp_all [PV.lift,PV.liftL]
 have:∀ cs,PV.liftL 0 cs=cs:=by
  intro cs;induction cs with
  | nil=>rfl
  | cons p r ih=>simp[PV.liftL,h0,ih]
 rw[this]):p:=h
theorem zD41 {p:Prop} (h:p:=by
 have:(cur.set j { m with key:=g a,val:=zv }).map (·.born)=cur.map (·.born):=by
  rw[List.map_set]
  apply List.ext_getElem?
  intro i
  rw[List.getElem?_set]
  by_cases hi:j=i
  · subst hi;simp[hjl];exact congrArg MapEntry.born (zA1.1 h2).2.symm
  · simp[hi]
 rw[this];exact hbn):p:=h
theorem zD42 {p:Prop} (h:p:=by
 have hf:(decide (r.1≤c)&&decide (c≤r.2))=false:=by
  rw[← Bool.decide_and];exact zAo hc
 rw[hf,Bool.false_or] at i2
 repeat' (first|(apply z04;(refine z08 (z1f (ys:=l.map rgc) rfl (idx hr)) rfl rfl ?_))|refine z01 ?_|refine fk (fun _=>?_) (fun _=>?_))
 all_goals try (exfalso;omega)
 all_goals exact z00 (ih (q+1) ⟨by omega,i2⟩ (by omega)) rfl rfl):p:=h
theorem zD43 {p:Prop} (h:p:=by
 subst hvs
 obtain⟨op,mn,mx,rs,ks⟩:=e
 rw[z2m] at hsh ⊢
 dsimp only[shv] at hsh
 refine z06 Tryz.func61 (by kernel_rfl) rfl (by simp) ?_
 dsimp only[Tryz.f61]
 repeat' (first|(apply z03;(refine z1n hsh ?_))|refine z01 ?_|refine fk (fun _=>?_) (fun _=>?_))
 all_goals try (exfalso;omega)
 all_goals exact z02 Tryz.func61 _ z1d ⟨rfl,rfl⟩):p:=h
theorem zD44 {p:Prop} (h:p:=by
 have:=z0s (P:=P) ht g (i*1+0) [c] w (by simp[hs]) (fun j v hv=>by
  cases j with
  | zero=>simp at hv;subst hv;simpa using hcell i c hc
  | succ j=>simp at hv)
 simp only[Nat.mul_one,Nat.add_zero] at this hv'
 rcases this with h|h
 · exact⟨c,by simp only[execOp,hv',Instr.loadAt,Instr.sureAddr];simp[h,ha],hpr⟩
 · exact absurd hs h.2):p:=h
theorem zD45 {p:Prop} (h:p:=by
 have hbr:=hr.heap.blk (md+1,ms) _ hlook
 refine HR.install (d:=y) hr0 hfr.1 (Ext.refl w own) hr.heap.lt (v:=β (md+1,ms)) (b:=raw.lift (md+1)) (fun m c hm hc hmy g hg=>?_) (hbr.reβ (0,y) (z1w β y _) (Blk.lift_says _ _ _))
 obtain⟨h1,h2⟩:=key m c hm hc
 exact⟨rfl,(hr.heap.blk m c h2).block_lt hc hg,fun _=>hr.heap.inj m (md+1,ms) c _ h2 hlook hc hl' h1 g hg⟩):p:=h
theorem zD46 {p:Prop} (h:p:=by
 repeat' (first|(apply z10;(refine z8l hk1 rfl rfl rfl (by decide) rfl rfl rfl (by decide) rfl rfl rfl rfl ?_))|(apply z04;(refine z08 (z1f (ys:=ks.map rxc) rfl (z4e hki)) rfl rfl ?_))|(apply z0o;(refine z08 z8c rfl rfl ?_))|refine z01 ?_|refine fk (fun _=>?_) (fun _=>?_))
 all_goals try (exfalso;omega)
 all_goals (rw[← ho1,← ho2] at ih';exact z00 ih' rfl rfl)):p:=h
theorem zD47 {p:Prop} (h:p:=by
 obtain⟨i,u,z,hi,hu,hz,hs,hb,hk',_⟩:=h.get
 rw[hk] at hk'
 cases u <;> simp[TK.ofD] at hk' <;> simp_all):p:=h
theorem zD48 {p:Prop} (h:p:=by
 repeat' (first|refine z01 ?_|refine fk (fun _=>?_) (fun _=>?_))
 all_goals try (exfalso;omega)
 all_goals (refine z02 Tryz.func130 _ z1d ⟨?_,rfl⟩;rw[hvl];simp_all <;> omega)):p:=h
theorem zD49 {p:Prop} (h:p:=by
 obtain⟨j,hj⟩:=zAw hv
 have hjl:=(zA1.1 hj).1
 rw[hlen] at hjl
 have h2:=hget (j / te.size) (j % te.size) ((Nat.div_lt_iff_lt_mul (by omega)).2 hjl) (Nat.mod_lt _ (by omega))
 rw[Nat.div_add_mod' j te.size,hj] at h2
 rw[List.all_eq_true] at hz
 exact hz v (zA2 h2.symm)):p:=h
theorem zD50 {p:Prop} (h:p:=by
 have hp:=PR.ref (β:=z3y β d v') (w:=w') (own:=fun g=>own g∨v'.ownBlock=some g) (0,d)
 rw[z0x] at hp
 exact hin.put (dst:=some d) (p:=.ref (0,d)) (by simpa[St.fits] using hd) hp):p:=h
theorem zD51 {p:Prop} (h:p:=by
 repeat' (first|(apply z5b;((exact z00 hk rfl rfl)))|(apply z0o;(first|refine z08 (z1a z16) rfl rfl ?_| refine z08 (z18 z16) rfl rfl ?_| refine z08 (zaq (by omega) (by decide) z16) rfl rfl ?_))|(apply z03;(first|refine z4j hi ?_| refine z4j hr ?_))|refine z01 ?_|refine fk (fun _=>?_) (fun _=>?_))
 all_goals try (exfalso;omega)):p:=h
theorem zD52 {p:Prop} (h:p:=by
 simp only[execOp]
 have:(Array.map (fun x:Nat × Operand=>match x with|(i,x)=>(i,a.eval x)) l.toArray)=l.toArray.map fun x=>(x.1,a.eval x.2):=rfl
 rw[this,Sem.run_bind,hrun]
 rfl):p:=h
theorem zD53 {p:Prop} (h:p:=by
 have gq:d'.toList[((q:Nat):Int).toNat]? =some d'[q]!:=z29 (by omega) (by omega)
 have hc:=z15 d'[q]! d'[a]!
 rw[zAi hq.2] at hc
 rw[y47 hq.1 (by simp[Go.Sort.ltInt,hq.2])] at q2
 have ih':=ihq (q+1) ⟨by omega,by omega,q2⟩ (by omega)
 obtain⟨hq1,hq2⟩:=hq
 clear ihq
 all_goals exact zD17):p:=h
theorem zD54 {p:Prop} (h:p:=by
 refine zl2 (i:=j) (X:=rlX n S) (pre:=[(3,.box ([z2g op,z2g (i:Nat),z2g mx,rgs [],D.slice ([Rx.mk op' mn' mx' rs' ks'].map rxc)].map PV.d))]) rfl (by rw[z1b];omega) ?_ (fun s b hs hb=>?_) ihj' rfl
 · rw[Ab.look,zAz rfl]
 · rw[Ab.look,zAy (Ne.symm hs)];exact hb):p:=h
theorem zD55 {p:Prop} (h:p:=by
 all_goals try (exfalso;first|omega|(simp at *;done)|(simp at *;omega))
 all_goals refine z5f (raw:=.glob 1 τ.o0) 700 0 700 (z07 (z0y _ (0,700) _) (by simp)) ?_
 all_goals refine z5f (raw:=.glob 2 τ.o1) 701 0 701 (z07 (z0y _ (0,701) _) (by simp)) ?_
 all_goals exact z02 Tryz.func5 _ z1d ⟨rfl,z7m hX0 hX1⟩):p:=h
theorem zD56 {p:Prop} (h:p:=by
 rw[zA4,zAa,zAn,show (((P.length+1:Nat):Int)-1).toNat=P.length by omega];simp):p:=h
theorem zD57 {p:Prop} (h:p:=by
 refine .d _ _ (.agg _ _ (by simpa using hl) h1 fun j x v hx hv=>?_)
 have:=hd j (.d x) v (by rw[zAd,hx];rfl) hv
 cases this with|d _ _ h=>exact h):p:=h
theorem zD58 {p:Prop} (h:p:=by
 all_goals try (exfalso;omega)
 all_goals refine z2z (raw:=rwA d') 1000 0 1000 ?_
 all_goals refine z02 Tryz.func174 _ z1d ⟨rfl,?_⟩
 all_goals simp[z6b,z1i]):p:=h
theorem zD59 {p:Prop} (h:p:=by
 rw[← hh] at hc
 repeat' (first|(apply z0o;(refine z08 (zob (by omega)) rfl rfl ?_))|(apply z03;(refine zr0 (first:=[]) (cap:=PV.liftL 1 caps) (ps:=[I .i64 ((((i:Nat):Int)+((j:Nat):Int)) / 2)]) hc rfl rfl (hb _ _ _) (by decide) ?_))|refine z01 ?_|refine fk (fun _=>?_) (fun _=>?_))
 all_goals exact zD8):p:=h
theorem zD60 {p:Prop} (h:p:=by
 clear ih
 repeat' (first|(apply z0o;(refine z08 (z1a z16) rfl rfl ?_))|(apply z03;(refine z4j hi ?_))|refine z01 ?_|refine fk (fun _=>?_) (fun _=>?_))
 all_goals try (exfalso;omega)
 refine z2z (raw:=rwA S) 1000 0 1000 ?_
 refine z02 Tryz.func133 _ (z1o rfl) ⟨rfl,?_⟩
 simp[z6b,z1i]):p:=h
theorem zD61 {p:Prop} (h:p:=by
 refine⟨hgrow.os,hgrow.tape,hgrow.output,hgrow.size,fun b hb hno=>hgrow.block b hb fun e=>hno (ho b e.symm),fun b hb hno=>?_⟩
 rintro(h|h)
 · exact hno h
 · rcases hwhere with e|e
   · rw[e] at h;exact hno (ho b h)
   · rw[e] at h;simp at h;omega):p:=h
theorem zD62 {p:Prop} (h:p:=by
 have h1:=(hlist i).2 hx
 rw[Array.getD_eq_getD_getElem?,Array.getElem?_eq_getElem (by omega)] at h1 hun
 simp at h1 hun
 rw[h1] at hun;cases hun):p:=h
theorem zD63 {p:Prop} (h:p:=by
 refine z5f (raw:=.box [.ref (0,5000)]) 700 1 3 (z07 v3 (by simp)) ?_
 refine zdu rfl ⟨rfl,?_⟩
 rw[← hV,z1i,z7u (by simp),z1i,z6s (m:=(1,3)) hb3]):p:=h
theorem zD64 {p:Prop} (h:p:=by
 apply List.ext_getElem?
 intro i
 rw[List.getElem?_modify,List.getElem?_set]
 by_cases hi:j=i
 · subst hi;simp[h2,hjl];exact congrArg MapEntry.born (zA1.1 h2).2
 · simp[hi]):p:=h
theorem zD65 {p:Prop} (h:p:=by
 generalize hxv:ac.eval x=xv at ex
 cases ex with
 | ref _=>exact hβ):p:=h
theorem zD66 {p:Prop} (h:p:=by
 repeat' (first|(apply z03;(first|refine z4j c1 ?_| refine z1n c2 ?_| refine z1n c4 ?_))|(apply z2c;(refine z0h z4x ?_))|refine z01 ?_|refine fk (fun _=>?_) (fun _=>?_))
 all_goals try (exfalso;omega)
 refine z02 Tryz.func51 _ z1d ⟨?_,rfl⟩
 simp[hp]):p:=h
theorem zD67 {p:Prop} (h:p:=by
 all_goals try (exfalso;omega)
 all_goals ((repeat rw[z1t]);first|exact z02 Tryz.func45 _ (z0r rfl rfl rfl rfl rfl rfl rfl) ⟨rfl,rfl⟩|exact z02 Tryz.func45 _ z2j ⟨rfl,rfl⟩|exact z02 Tryz.func45 _ z1d ⟨rfl,rfl⟩|exact z02 Tryz.func45 _ z68 ⟨rfl,rfl⟩)):p:=h
theorem zD68 {p:Prop} (h:p:=by
 all_goals try (exfalso;omega)
 all_goals ((repeat rw[z1t]);first|exact z02 Tryz.func196 _ (z0r rfl rfl rfl rfl rfl rfl rfl) ⟨rfl,rfl⟩|exact z02 Tryz.func196 _ z2j ⟨rfl,rfl⟩|exact z02 Tryz.func196 _ z1d ⟨rfl,rfl⟩|exact z02 Tryz.func196 _ z68 ⟨rfl,rfl⟩)):p:=h
theorem zD69 {p:Prop} (h:p:=by
 all_goals try (exfalso;omega)
 all_goals ((repeat rw[z1t]);first|exact z02 Tryz.func164 _ (z0r rfl rfl rfl rfl rfl rfl rfl) ⟨rfl,rfl⟩|exact z02 Tryz.func164 _ z2j ⟨rfl,rfl⟩|exact z02 Tryz.func164 _ z1d ⟨rfl,rfl⟩|exact z02 Tryz.func164 _ z68 ⟨rfl,rfl⟩)):p:=h
theorem zD70 {p:Prop} (h:p:=by
 repeat' (first|(apply z0o;(refine z08 z3u rfl rfl ?_))|refine z01 ?_|(apply z10;(refine z2f hlt rfl rfl (by decide) ?_)))
 all_goals try (exfalso;omega)
 all_goals exact z02 Tryz.func63 _ z1d ⟨congrArg (fun b=>RV.v (B b)) hfin,rfl⟩):p:=h
theorem zD71 {p:Prop} (h:p:=by
 rw[PV.liftL_get] at hx
 cases hc:cs[j]? with
 | none=>simp[hc] at hx
 | some y=>rw[hc] at hx;simp at hx;subst hx;exact ih j y v hc hv):p:=h
theorem zD72 {p:Prop} (h:p:=by
 repeat' (first|(apply z04;(refine z08 (z1f (ys:=ks.map rxc) rfl (z4e hk)) rfl rfl ?_))|(apply z03;(refine z1n hc ?_))|refine z01 ?_|refine fk (fun _=>?_) (fun _=>?_))
 all_goals try (exfalso;omega)
 all_goals exact z00 ihl' rfl rfl):p:=h
theorem zD73 {p:Prop} (h:p:=by
 rw[zgc,← i3]
 have:(decide (a≤r.1)&&decide (r.1≤r.2)&&decide (r.2≤1114111))=false:=by
  rw[← Bool.decide_and,← Bool.decide_and,zA5]
  exact fun h=>hgd ⟨h.1.1,h.1.2,h.2⟩
 rw[this];rfl):p:=h
theorem zD74 {p:Prop} (h:p:=by
 cases hv:vns e with
 | false=>simp
 | true =>
  rw[(y58 (by decide)).1 e hv]
  simp only[Bool.true_eq_false,if_false]
  by_cases hp:64<pn e
  · rw[zAz hp,zAz (by omega)]
  · rw[zAy hp,zAy (by omega)]):p:=h
theorem zD75 {p:Prop} (h:p:=by
 obtain⟨h1,h2⟩:=hr
 refine⟨h1,?_⟩
 rcases h2 with h2|⟨g,cap,cur,hv,hb,hg,rest⟩
 · exact .inl h2
 · subst hv
   refine .inr ⟨g,cap,cur,rfl,hb,?_,rest⟩
   rw[(hk rfl g rfl).1];exact hg):p:=h
theorem zD76 {p:Prop} (h:p:=by
 rw[hβ] at hbr ⊢
 cases hbr with
 | lp g _ _ _ _ _ _ _ _ tmps' df' ho' hg' hl hd =>
  rw[hg] at hg';simp at hg'
  obtain⟨rfl,rfl⟩:=hg'
  exact .lp L n' f' ps asg body _ state' pend' tmps df ho hhere hl fun t p hp=>(hd t p hp).mono hE):p:=h
theorem zD77 {p:Prop} (h:p:=by
 simp only[execOp,hv',(hr.ev hx.2.1).lit,hv]
 simp[Instr.indexAt,asIntOf,run_underlying (ht.slice hk),h0,h1,he.sizeOf,z3i,hkk]):p:=h
theorem zD78 {p:Prop} (h:p:=by
 by_cases hji:j=i
 · subst hji;simp[hsz,hilt]
 · rw[getD_set_ne false (Ne.symm hji),hlist];simp[hji]):p:=h
theorem zD79 {p:Prop} (h:p:=by
 all_goals ((repeat rw[z1t]);first|exact z02 Tryz.func48 _ (z0r rfl rfl rfl rfl rfl rfl rfl) ⟨rfl,rfl⟩|exact z02 Tryz.func48 _ z2j ⟨rfl,rfl⟩|exact z02 Tryz.func48 _ z1d ⟨rfl,rfl⟩|exact z02 Tryz.func48 _ z68 ⟨rfl,rfl⟩)):p:=h
theorem zD80 {p:Prop} (h:p:=by
 all_goals try (exfalso;omega)
 all_goals exact z02 Tryz.func63 _ z1d ⟨rfl,rfl⟩):p:=h
theorem zD81 {p:Prop} (h:p:=by
 repeat' (first|(apply z1k;(refine z08 (z3a rfl) rfl rfl ?_))|refine z01 ?_|refine fk (fun _=>?_) (fun _=>?_))
 all_goals try (exfalso;omega)
 all_goals exact z02 xN _ (z0r rfl rfl rfl rfl rfl rfl rfl) ⟨rfl,rfl⟩):p:=h
theorem zD82 {p:Prop} (h:p:=by
 repeat' (first|(apply z04;(refine z08 (z1f (ys:=ks.map rxc) rfl (z4e hk)) rfl rfl ?_))|refine z01 ?_|refine fk (fun _=>?_) (fun _=>?_))
 all_goals try (exfalso;omega)
 all_goals exact z00 ihq' rfl rfl):p:=h
theorem zD83 {p:Prop} (h:p:=by
 repeat' (first|(apply z03;(first|refine z1n hsh ?_| refine z1n hpo ?_))|refine z01 ?_|refine fk (fun _=>?_) (fun _=>?_))
 all_goals try (exfalso;omega)
 all_goals exact z02 Tryz.func61 _ z1d ⟨rfl,rfl⟩):p:=h
theorem zD84 {p:Prop} (h:p:=by
 repeat' (first|(apply z2c;(refine z0h z4x ?_))|refine z01 ?_|refine fk (fun _=>?_) (fun _=>?_))
 all_goals try (exfalso;simp only[zA4] at *;omega)
 all_goals exact z02 Tryz.func37 _ z1d ⟨rfl,rfl⟩):p:=h
theorem zD85 {p:Prop} (h:p:=by
 repeat' (first|(apply z1k;(refine z08 (z3a rfl) rfl rfl ?_))|refine z01 ?_|refine fk (fun _=>?_) (fun _=>?_))
 all_goals try (exfalso;omega)
 refine z0z 1000 rfl ?_
 exact z02 Tryz.func94 _ z1d ⟨rfl,rfl⟩):p:=h
theorem zD86 {p:Prop} (h:p:=by
 rw[hr] at hrun
 simp only[Result.ok.injEq] at hrun
 right;rw[← hrun.1];rfl):p:=h
theorem zD87 {p:Prop} (h:p:=by
 rintro(h1|⟨h1,h2⟩)
 · exact .inl h1
 · exact .inr ⟨by omega,h2⟩):p:=h
theorem zD88 {p:Prop} (h:p:=by
 obtain rfl:k=n / 64+1:=by omega
 rw[zzt]
 repeat' (first|refine z01 ?_|refine fk (fun _=>?_) (fun _=>?_))
 all_goals try (exfalso;omega)
 all_goals exact z8e Tryz.func141 _ (z1o rfl) ⟨rfl,rfl⟩):p:=h
theorem zD89 {p:Prop} (h:p:=by
 simp only[List.drop_succ_cons,List.drop_zero,List.cons_append,List.nil_append,List.cons.injEq,and_true]
 omega):p:=h
theorem zD90 {p:Prop} (h:p:=by
 rw[List.map_append,List.pairwise_append]
 refine⟨hbn,by simp,fun u hu v hv=>?_⟩
 obtain⟨m,hm,rfl⟩:=List.mem_map.1 hu
 simp at hv;subst hv
 exact hc m hm):p:=h
theorem zD91 {p:Prop} (h:p:=by
 rw[zbv] at hp
 cases hc:cs[j]? with
 | none=>rw[hc] at hp;simp at hp
 | some c=>rw[hc] at hp;simp at hp;subst hp;exact(hd j c v hc hv).ren):p:=h
theorem zD92 {p:Prop} (h:p:=by
 all_goals refine z2y 103 1003 ?_
 all_goals exact z00 ihj' rfl rfl):p:=h
theorem zD93 {p:Prop} (h:p:=by
 rw[zgz] at hp
 cases hc:cs[j]? with
 | none=>rw[hc] at hp;simp at hp
 | some c=>rw[hc] at hp;simp at hp;subst hp;exact PR.frz hD (hd j c v hc hv)):p:=h
theorem zD94 {p:Prop} (h:p:=by
 unfold z9q at hn ⊢
 cases hm:R.rnd with
 | none=>rw[hm] at hn;exact hn
 | some m =>
  rw[hm] at hn
  obtain⟨hv,L,h1,h2⟩:=hn
  exact⟨hv,L,h1,(hout m hv).trans h2⟩):p:=h
theorem zD95 {p:Prop} (h:p:=by
 have:decide (i<k)=decide (i<k+1):=by rw[decide_eq_decide];omega
 rw[this]):p:=h
theorem zD96 {p:Prop} (h:p:=by
 repeat' (first|(apply z5b;((exact z00 hk rfl rfl)))|(apply z0o;(refine z08 (z1a z16) rfl rfl ?_))|(apply z03;(refine z4j hi ?_))|refine z01 ?_|fail)
 all_goals try (exfalso;omega)):p:=h
theorem zD97 {p:Prop} (h:p:=by
 simp only at hp'
 rw[z4v] at hp'
 cases hq':look tm t with
 | none=>rw[hq'] at hp';cases hp'
 | some q=>rw[hq'] at hp';simp at hp';subst hp';exact(hr.tm t q hq').drop hne):p:=h
theorem zD98 {p:Prop} (h:p:=by
 intro m' hm'
 rcases List.mem_or_eq_of_mem_set hm' with h|h
 · exact hc m' h
 · subst h;exact hc m (zA2 h2)):p:=h
theorem zD99 {p:Prop} (h:p:=by
 intro m c hm hc
 rw[z4p,z2e] at hm
 by_cases e:m=(md+1,ms)
 · rw[zAz e] at hm;simp[atF,Blk.lift] at hm;subst hm;cases hc
 · rw[zAy e] at hm;exact⟨e,hm⟩):p:=h
theorem zD100 {p:Prop} (h:p:=by
 intro i' j hi' hj
 have hlt:i'*te.size+j<a.toNat*te.size:=by
  have:(i'+1)*te.size≤a.toNat*te.size:=Nat.mul_le_mul_right _ hi'
  rw[Nat.add_mul] at this;omega
 exact zD22):p:=h
theorem zD101 {p:Prop} (h:p:=by
 rw[hal2,show (((m.length+1:Nat):Int)-1).toNat=m.length by omega];simp):p:=h
theorem zD102 {p:Prop} (h:p:=by
 cases ez with
 | d _ _ h =>
  refine⟨?_,h⟩
  cases h with
  | lit _ h1=>exact h1
  | nil=>rfl
  | slice=>rfl
  | agg=>simp[y2p] at hok
  | ifc=>rfl):p:=h
theorem zD103 {p:Prop} (h:p:=by
 repeat' (first|refine z01 ?_|refine fk (fun _=>?_) (fun _=>?_))
 all_goals exact zD8):p:=h
theorem zD104 {p:Prop} (h:p:=by
 exact hr'.put (dst:=some d) (p:=p) (v:=v) (by simp[St.fits,hd]) hpv):p:=h
theorem zD105 {p:Prop} (h:p:=by
 all_goals try (exfalso;omega)
 all_goals exact z02 Tryz.func37 _ z1d ⟨rfl,rfl⟩):p:=h
theorem zD106 {p:Prop} (h:p:=by
 repeat' (first|refine z01 ?_|refine fk (fun _=>?_) (fun _=>?_))
 all_goals try (exfalso;omega)
 exact z02 Tryz.func91 _ z1d ⟨rfl,rfl⟩):p:=h
theorem zD107 {p:Prop} (h:p:=by
 repeat' (first|refine z01 ?_|refine fk (fun _=>?_) (fun _=>?_))
 all_goals try (exfalso;omega)
 exact z02 Tryz.func96 _ z1d ⟨rfl,rfl⟩):p:=h
theorem zD108 {p:Prop} (h:p:=by
 intro m hm
 rcases zAt.1 hm with hm|hm
 · have:=hc m hm;omega
 · simp at hm;subst hm;simp):p:=h
theorem zD109 {p:Prop} (h:p:=by
 repeat' (first|refine z01 ?_|refine fk (fun _=>?_) (fun _=>?_))
 all_goals try (exfalso;omega)
 all_goals exact z02 Tryz.func95 _ z68 ⟨rfl,rfl⟩):p:=h
theorem zD110 {p:Prop} (h:p:=by
 rintro(e|e|e)
 · exact .inr (.inl e)
 · exact .inl e
 · exact .inr (.inr e)):p:=h
theorem zD111 {p:Prop} (h:p:=by
 by_cases h1:t=1
 · rw[zAz h1];exact .inl rfl
 · rw[zAy h1];exact .inr ⟨rfl,by omega⟩):p:=h
theorem zD112 {p:Prop} (h:p:=by
 repeat' (first|refine z01 ?_|refine fk (fun _=>?_) (fun _=>?_))
 all_goals try (exfalso;omega)
 all_goals exact z02 Tryz.func120 _ z1d ⟨rfl,rfl⟩):p:=h
theorem zD113 {p:Prop} (h:p:=by
 simp only[List.nil_append] at e;subst e
 obtain⟨j,h3,h4,h5⟩:=h2
 exact⟨j,.inr ⟨h1,h3⟩,h4,(zam hab hFb hla w j (hfb j h3)).2 h5⟩):p:=h
theorem zD114 {p:Prop} (h:p:=by
 all_goals try (exfalso;omega)
 all_goals rw[show (2*(r:Int)+1)=(((2*r+1):Nat):Int) by omega]
 all_goals exact z00 ih' rfl rfl):p:=h
theorem zD115 {p:Prop} (h:p:=by
 repeat' (first|refine z01 ?_|refine fk (fun _=>?_) (fun _=>?_))
 all_goals try (exfalso;omega)
 all_goals exact z02 Tryz.func16 _ z1d ⟨rfl,rfl⟩):p:=h
theorem zD116 {p:Prop} (h:p:=by
 cases hb:(ze3 (NK k κ) (lvK k) c).testBit j with
 | false=>rfl
 | true =>
  have:=(zgt k (NK k κ) c j).1 hb
  omega):p:=h
theorem zD117 {p:Prop} (h:p:=by
 rw[zao] at hx
 cases hc:cs[j]? with
 | none=>rw[hc] at hx;cases hx
 | some y=>rw[hc] at hx;simp at hx;subst hx;exact(hd j y u hc hu).alias hab):p:=h
theorem zD118 {p:Prop} (h:p:=by
 simp only[look] at hq
 split at hq
 · rename_i hh;subst hh;exact .inl ⟨rfl,by simpa using hq.symm⟩
 · exact .inr hq):p:=h
theorem zD119 {p:Prop} (h:p:=by
 repeat' (first|(apply z5b;((exact z00 hk rfl rfl)))|refine z01 ?_|refine fk (fun _=>?_) (fun _=>?_))
 all_goals try (exfalso;omega)):p:=h
theorem zD120 {p:Prop} (h:p:=by
 rintro(h|h|h)
 · exact .inr (.inl h)
 · exact .inl h
 · exact .inr (.inr h)):p:=h
theorem zD121 {p:Prop} (h:p:=by
 cases v with
 | slice a l c=>cases a <;> simp[Value.ownBlock] at hg;subst hg;exact(hk rfl _ rfl).2
 | _=>simp[Value.ownBlock] at hg):p:=h
theorem zD122 {p:Prop} (h:p:=by
 rcases hr.2 with h2|⟨g,cap,cur,hv,hb,hg,rest⟩
 · exact .inl h2
 · exact .inr ⟨g,cap,cur,hv,hb,h.cell hg (by simp),rest⟩):p:=h
theorem zD123 {p:Prop} (h:p:=by
 rw[← htake,List.getElem?_take] at hj
 split at hj
 · simp only[World.cell?,hg]
   simpa using hj
 · cases hj):p:=h
theorem zD124 {p:Prop} (h:p:=by
 by_cases h2:5000≤s
 · rw[zAz h2,zAz h2,List.getElem?_set_ne (by omega)]
 · rw[zAy h2,zAy h2]):p:=h
theorem zD125 {p:Prop} (h:p:=by
 rcases hr.2 with h|⟨g',cap,cur,hv,_⟩
 · rw[h.1] at hg;simp[z14] at hg
 · subst hv;simp[z14] at hg;subst hg;exact ho _ rfl):p:=h
theorem zD126 {p:Prop} (h:p:=by
 constructor
 · intro h;exact⟨[],[],rfl,h,zmn _⟩
 · rintro⟨u,v,e,h1,h2⟩
   obtain⟨rfl,rfl⟩:=z9u e
   exact h1):p:=h
theorem zD127 {p:Prop} (h:p:=by
 rw[znn]
 split
 · exact fun e=>h92 e.symm
 · rename_i hc
   intro e;rw[e,hd] at hc;exact hc rfl):p:=h
theorem zD128 {p:Prop} (h:p:=by
 rw[z98 q a j xq h1' h3 h4] at hr
 subst hr
 exact .d _ _ (hdd j (g xq.1,xq.2) m (by rw[zAd,h1'];rfl) h2).2.2):p:=h
theorem zD129 {p:Prop} (h:p:=by
 rw[List.flatMap_cons,zej,zAl,zAl,zAl,z3l,zAl]
 exact zcx _ _ rfl (by decide)):p:=h
theorem zD130 {p:Prop} (h:p:=by
 simp only[List.getD_cons_zero,List.getD_cons_succ]
 rw[e,zAz (by rw[zA7,zA3];exact⟨by omega,hv⟩)];rfl):p:=h
theorem zD131 {p:Prop} (h:p:=by
 exact⟨fun m b hb=>hr.heap.blk m b (key m b hb),fun m1 m2 b1 b2 h1 h2=>hr.heap.inj m1 m2 b1 b2 (key _ _ h1) (key _ _ h2),hr.heap.lt⟩):p:=h
theorem zD132 {p:Prop} (h:p:=by
 have h1:(te.bytes:Int)*a=((a.toNat*te.bytes:Nat):Int):=by rw[Int.natCast_mul,Int.toNat_of_nonneg h0,Int.mul_comm]
 rw[hib,h1];omega):p:=h
theorem zD133 {p:Prop} (h:p:=by
 rcases this with h|h
 · simp only[execOp,hv,Instr.loadAt,Instr.sureAddr];simp[h,ha]
 · exact absurd hs h.2):p:=h
theorem zD134 {p:Prop} (h:p:=by
 cases l with
 | nil=>rfl
 | cons s l =>
  obtain⟨_,_,h3,h4,_⟩:=hs
  have:=hb s (by simp)
  omega):p:=h
theorem zD135 {p:Prop} (h:p:=by
 simp only[zAt] at hq
 rcases hq with hq|hq
 · exact hg.agrees q hq
 · exact z34 hz1 q hq):p:=h
theorem zD136 {p:Prop} (h:p:=by
 obtain⟨b1,h1,l1⟩:=hm x bx hx lx
 obtain⟨b2,h2,l2⟩:=hm y by' hy ly
 exact h.inj x y b1 b2 h1 h2 l1 l2 hne g' hg'):p:=h
theorem zD137 {p:Prop} (h:p:=by
 all_goals try (exfalso;omega)
 all_goals rw[show ((k+1:Nat):Int)-1-1=(k:Nat)-1 by omega]
 all_goals exact z00 ih' rfl rfl):p:=h
theorem zD138 {p:Prop} (h:p:=by
 all_goals try (exfalso;first|omega|(simp at *;done)|(simp at *;omega))
 all_goals exact z02 Tryz.func31 _ z2j ⟨rfl,rfl⟩):p:=h
theorem zD139 {p:Prop} (h:p:=by
 repeat' (first|(apply z5b;((exact z00 hk rfl rfl)))|refine z01 ?_|fail)
 all_goals try (exfalso;omega)):p:=h
theorem zD140 {p:Prop} (h:p:=by
 simp only[List.getElem?_cons_succ,List.getElem?_cons_zero,zAh] at hp hv
 subst hp hv;exact hz):p:=h
theorem zD141 {p:Prop} (h:p:=by
 rcases hown.2 with h|⟨g,cap,cur,hv,_⟩
 · rw[h.2];exact⟨_,_,h.1⟩
 · exact⟨_,_,hv⟩):p:=h
theorem zD142 {p:Prop} (h:p:=by
 simp[execOp,ex',ey,Instr.lookup,run_underlying hm,Go.MapKept.run_getObj_map hg,hk.check w,h2,Result.andThen,hz0]):p:=h
