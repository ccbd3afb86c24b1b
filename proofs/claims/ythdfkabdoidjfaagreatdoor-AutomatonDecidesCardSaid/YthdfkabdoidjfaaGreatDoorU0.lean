/- Blocks of steps that end a branch. -/
import Derived.WalkKit
import Derived.RangeFuncRecord
import Derived.Laws.StructEq
import Derived.KernelRfl
import Derived.Great.BuildSlice
set_option maxRecDepth 1000000
set_option maxHeartbeats 20000000
theorem zA0:type_of% @List.getElem?_eq_getElem:=@List.getElem?_eq_getElem
theorem zA1:type_of% @List.getElem?_eq_some_iff:=@List.getElem?_eq_some_iff
theorem zA2:type_of% @List.mem_of_getElem?:=@List.mem_of_getElem?
theorem zA3:type_of% @decide_eq_true_eq:=@decide_eq_true_eq
theorem zA4:type_of% @List.length_map:=@List.length_map
theorem zA5:type_of% @decide_eq_false_iff_not:=@decide_eq_false_iff_not
theorem zA6:type_of% @Bool.not_eq_true':=@Bool.not_eq_true'
theorem zA7:type_of% @Bool.and_eq_true:=@Bool.and_eq_true
theorem zA8:type_of% @Bool.not_eq_false':=@Bool.not_eq_false'
theorem zA9:type_of% @Int.toNat_natCast:=@Int.toNat_natCast
theorem zAa:type_of% @List.length_append:=@List.length_append
theorem zAb:type_of% @List.getElem?_append_left:=@List.getElem?_append_left
theorem zAc:type_of% @List.mem_cons:=@List.mem_cons
theorem zAd:type_of% @List.getElem?_map:=@List.getElem?_map
theorem zAe:type_of% @Array.length_toList:=@Array.length_toList
theorem zAf:type_of% @Nat.zero_le:=@Nat.zero_le
theorem zAg:type_of% @List.getElem?_append_right:=@List.getElem?_append_right
theorem zAh:type_of% @Option.some.injEq:=@Option.some.injEq
theorem zAi:type_of% @decide_eq_true:=@decide_eq_true
theorem zAj:type_of% @Nat.le_refl:=@Nat.le_refl
theorem zAk:type_of% @List.length_cons:=@List.length_cons
theorem zAl:type_of% @List.append_assoc:=@List.append_assoc
theorem zAm:type_of% @List.length_take:=@List.length_take
theorem zAn:type_of% @List.length_singleton:=@List.length_singleton
theorem zAo:type_of% @decide_eq_false:=@decide_eq_false
theorem zAp:type_of% @List.getElem?_set_self:=@List.getElem?_set_self
theorem zAq:type_of% @List.mem_singleton:=@List.mem_singleton
theorem zAr:type_of% @List.length_replicate:=@List.length_replicate
theorem zAs:type_of% @List.drop_length:=@List.drop_length
theorem zAt:type_of% @List.mem_append:=@List.mem_append
theorem zAu:type_of% @Bool.or_eq_true:=@Bool.or_eq_true
theorem zAv:type_of% @List.getElem?_eq_none:=@List.getElem?_eq_none
theorem zAw:type_of% @List.getElem?_of_mem:=@List.getElem?_of_mem
theorem zAx:type_of% @Nat.lt_of_lt_of_le:=@Nat.lt_of_lt_of_le
theorem zAy:type_of% @if_neg:=@if_neg
theorem zAz:type_of% @if_pos:=@if_pos
theorem zD1 {p:Prop} (h:p:=by
 rintro⟨i,ks,⟨F,A⟩⟩ ⟨i1,i2,i3,i4,i5,i7,i6⟩ ih
 simp only at i1 i2 i3 i4 i5 i6 i7 ih ⊢
 by_cases hlt:i<ks.length
 · obtain⟨k,hk⟩:∃ k,ks[i]? =some k:=⟨_,zA0 hlt⟩
   obtain⟨n,hn⟩:∃ n,lim.toNat+1-i=n+1:=⟨lim.toNat-i,by omega⟩
   rw[hn,exL,hk] at i6
   simp only at i6
   have hok:=i7 k (zA2 hk)
   have hff:=hfin k hok
   have hee:=hedg k hok
   obtain⟨⟨hE1,hE2⟩,hE3⟩:=hE k hok
   generalize edg k=es at *
   generalize fin k=fb at *
   repeat' (first|(apply z1c;(refine z04 (z4v hk rfl rfl) rfl rfl ?_))|(apply z01;(refine z04 (z2n rfl) rfl rfl ?_))|(apply z15;(refine z04 (z8e rfl) rfl rfl ?_))|(apply z06;(refine zwo (first:=[]) (cap:=xB) (ps:=[xP k]) hee rfl rfl (hb _ _ _) (by decide) ?_))|refine stq ?_|refine fk (fun _=>?_) (fun _=>?_))
   all_goals try (exfalso;simp only[zA4] at *;omega)
   refine z1m 14 1003 38 3 rfl rfl rfl ?_
   refine z0a ?_
   refine z00 (z0p (fun q:Nat × List xK × List Arc=>⟨128,[(1,.fn (.func xF) [] xA),(2,.fn (.func xH) [] xB),(3,I .i64 lim),(8,.ptr (0,8) 0),(10,.ptr (0,10) 0),(11,.ref (0,20)),(12,.ref (0,1000)),(13,I .i64 (i:Nat)),(14,.ref (0,1003)),(36,.d (.slice (es.map xE))),(37,I .i64 es.length),(38,I .i64 (q.1:Nat))],[(20,xM q.2.1),(1000,.row xT 2 (q.2.1.map xC)),(1003,.row 38 3 (q.2.2.map z1k)),(10,.box [.ref (0,1001),.ref (0,1002)]),(1001,.row 4 1 (F.map boc)),(1002,.row 39 1 (A.map z25)),(8,.box [.d (.lit z2c),.d (.lit z2c)])],H⟩) (fun q=>q.1≤es.length∧q.2.2.length≤q.1∧q.2.1.length≤ks.length+q.1∧q.2.1[i]? =some k∧(∀ y∈q.2.2,0≤y.2.1∧y.2.1≤1114111)∧(∀ x∈q.2.1,ok x)∧(es.drop q.1).foldl z4n q.2=es.foldl z4n (ks,[])) (fun q=>es.length-q.1) ?_ (0,ks,[]) ⟨zAf _,zAj _,zAj _,hk,by simp,i7,rfl⟩) rfl rfl
   rintro⟨j,ks2,arcs⟩ ⟨j1,j2,j3,j4,j5,j7,j6⟩ ihj
   simp only at j1 j2 j3 j4 j5 j6 j7 ihj ⊢
   by_cases hjl:j<es.length
   · obtain⟨e,he⟩:∃ e,es[j]? =some e:=⟨_,zA0 hjl⟩
     obtain⟨r1,r2,r3⟩:=hE2 e (zA2 he)
     rw[drop_cons he,List.foldl_cons,z4n] at j6
     simp only at j6
     have hal:=z7s ks2 e.2.2
     have hln:=z8n arcs e.1 e.2.1 (z2r e.2.2 ks2:Nat)
     have ihj':=ihj (j+1,z5b ks2 e.2.2,ext arcs e.1 e.2.1 (z2r e.2.2 ks2:Nat)) ⟨by simp only;omega,by simp only;omega,by simp only;omega,by simp only;obtain⟨x,hx⟩:=z6b ks2 e.2.2;rw[hx,zAb (zA1.1 j4).1];exact j4,fun y hy=>by
      rcases ext_mem hy with h|h
      · omega
      · exact j5 y h,fun x hx=>by
      rcases z7h hx with h|h
      · rw[h];exact hE3 e (zA2 he)
      · exact j7 x h,j6⟩ (by simp only;omega)
     have hget:=z5t e.2.2 ks2 0
     clear ihj hal
     by_cases hknown:e.2.2∈ks2
     · rw[z5b,zAz hknown] at ihj'
       rw[zAz hknown,Nat.zero_add] at hget
       have hget1:(z4d (z2d 0 ks2) e.2.2).getD (.lit (.int .i64 0))=z0u (z2r e.2.2 ks2:Nat):=by rw[hget];rfl
       have hget2:(z4d (z2d 0 ks2) e.2.2).isSome=true:=by rw[hget];rfl
       generalize z2r e.2.2 ks2=qv at *
       rcases zft arcs with rfl|⟨m,y,rfl⟩
       · rw[ext_nil] at ihj'
         repeat' (first|(apply z0y;(refine z07 (z3i (et:=3) (a:=e.2.2) (q:=z2d 0 ks2) (z0:=Value.int .i64 0) (py:=xP e.2.2) xG (z1l (by kernel_rfl)) rfl rfl rfl xW rfl hget1 hget2) ?_))|(apply z01;(refine z04 (z0k (ys:=es.map xE) rfl (idx he)) rfl rfl ?_))|(apply z15;(first|refine z04 (z0s rfl) rfl rfl ?_| refine z45 (g:=z1k) rfl rfl (e.1,e.2.1,((qv:Nat):Int)) rfl rfl rfl rfl rfl rfl rfl (by decide) (by simp) ?_))|refine stq ?_|refine fk (fun _=>?_) (fun _=>?_))
         all_goals try (exfalso;first|omega|(simp at *;done))
         all_goals skip
         all_goals refine z18 103 1003 ?_
         all_goals exact z00 ihj' rfl rfl
       · have hy:=j5 y (by simp)
         have hal:((m++[y]).map z1k).length=m.length+1:=by simp
         have hal2:(m++[y]).length=m.length+1:=by simp
         have hix:(m++[y])[(((((m++[y]).length:Nat):Int)-1)).toNat]? =some y:=by
          rw[hal2,show (((m.length+1:Nat):Int)-1).toNat=m.length by omega];simp
         have hse:(m++[y]).set (((((m++[y]).length:Nat):Int)-1)).toNat ((y.1,e.2.1,y.2.2):Arc)=m++[(y.1,e.2.1,y.2.2)]:=by
          rw[hal2,show (((m.length+1:Nat):Int)-1).toNat=m.length by omega];simp
         rw[z2x] at ihj'
         by_cases hj:y.2.1+1=e.1∧y.2.2=(qv:Nat)
         · have hyq:(y.1,e.2.1,((qv:Nat):Int))=((y.1,e.2.1,y.2.2):Arc):=by rw[hj.2]
           rw[zAz hj,hyq] at ihj'
           repeat' (first|(apply z0y;(refine z07 (z3i (et:=3) (a:=e.2.2) (q:=z2d 0 ks2) (z0:=Value.int .i64 0) (py:=xP e.2.2) xG (z1l (by kernel_rfl)) rfl rfl rfl xW rfl hget1 hget2) ?_))|(apply z0b;(first|refine z09 (z0x (u:=z0v y.2.1) hix) rfl rfl ?_| refine z09 (z0x (u:=z0u y.2.2) hix) rfl rfl ?_))|(apply z01;(first|refine z04 (z0k (ys:=es.map xE) rfl (idx he)) rfl rfl ?_| refine z04 (z2n rfl) rfl rfl ?_))|(apply z02;(refine z09 (z2n rfl) rfl rfl ?_))|(apply z0z;(refine z09 (z16 (z8h (by omega) (by omega))) rfl rfl ?_))|(apply z15;(first|refine z04 (z0s rfl) rfl rfl ?_| refine z48 (g:=z1k) (e.1,e.2.1,((qv:Nat):Int)) rfl ?_))|(apply z0n;(refine z23 ((y.1,e.2.1,y.2.2):Arc) hix hse ?_))|refine stq ?_|refine fk (fun _=>?_) (fun _=>?_)|(refine z19 (fun hg=>?_) (fun hg=>?_)<;> simp only[hg] <;> (try simp only[zA3,zA5,zA6,zA8] at hg)))
           all_goals try (exfalso;omega)
           all_goals skip
           all_goals exact z00 ihj' rfl rfl
         · rw[zAy hj] at ihj'
           repeat' (first|(apply z0y;(refine z07 (z3i (et:=3) (a:=e.2.2) (q:=z2d 0 ks2) (z0:=Value.int .i64 0) (py:=xP e.2.2) xG (z1l (by kernel_rfl)) rfl rfl rfl xW rfl hget1 hget2) ?_))|(apply z0b;(first|refine z09 (z0x (u:=z0v y.2.1) hix) rfl rfl ?_| refine z09 (z0x (u:=z0u y.2.2) hix) rfl rfl ?_))|(apply z01;(first|refine z04 (z0k (ys:=es.map xE) rfl (idx he)) rfl rfl ?_| refine z04 (z2n rfl) rfl rfl ?_))|(apply z02;(refine z09 (z2n rfl) rfl rfl ?_))|(apply z0z;(refine z09 (z16 (z8h (by omega) (by omega))) rfl rfl ?_))|(apply z15;(first|refine z04 (z0s rfl) rfl rfl ?_| refine z48 (g:=z1k) (e.1,e.2.1,((qv:Nat):Int)) rfl ?_))|(apply z0n;(refine z23 ((y.1,e.2.1,y.2.2):Arc) hix hse ?_))|refine stq ?_|refine fk (fun _=>?_) (fun _=>?_)|(refine z19 (fun hg=>?_) (fun hg=>?_)<;> simp only[hg] <;> (try simp only[zA3,zA5,zA6,zA8] at hg)))
           all_goals try (exfalso;omega)
           all_goals skip
           all_goals refine z18 103 1003 ?_
           all_goals exact z00 ihj' rfl rfl
     · rw[z5b,zAy hknown,z2y hknown] at ihj'
       rw[z2y hknown] at hln
       rw[zAy hknown] at hget
       have hget1:(z4d (z2d 0 ks2) e.2.2).getD (.lit (.int .i64 0))=z0u 0:=by rw[hget];rfl
       have hget2:(z4d (z2d 0 ks2) e.2.2).isSome=false:=by rw[hget];rfl
       have hput:=z7q hknown
       dsimp only[xM] at ihj'
       rw[← hput] at ihj'
       rcases zft arcs with rfl|⟨m,y,rfl⟩
       · rw[ext_nil] at ihj'
         repeat' (first|(apply z0y;(refine z07 (z3i (et:=3) (a:=e.2.2) (q:=z2d 0 ks2) (z0:=Value.int .i64 0) (py:=xP e.2.2) xG (z1l (by kernel_rfl)) rfl rfl rfl xW rfl hget1 hget2) ?_))|(apply z01;(refine z04 (z0k (ys:=es.map xE) rfl (idx he)) rfl rfl ?_))|(apply z15;(first|refine z04 (z0s rfl) rfl rfl ?_| refine z48 (g:=xC) e.2.2 rfl ?_| refine z45 (g:=z1k) rfl rfl (e.1,e.2.1,((ks2.length:Nat):Int)) rfl rfl rfl rfl rfl rfl rfl (by decide) (by simp) ?_))|refine stq ?_|refine fk (fun _=>?_) (fun _=>?_)|(apply z0y;(refine z3b (et:=3) (a:=e.2.2) (v:=z0u (ks2.length:Nat)) (py:=xP e.2.2) (q:=z2d 0 ks2) (by kernel_rfl) xG rfl rfl xW rfl rfl rfl ?_)))
         all_goals try (exfalso;first|omega|(simp at *;done))
         all_goals refine z18 61 1000 ?_
         all_goals refine z18 103 1003 ?_
         all_goals exact z00 ihj' rfl rfl
       · have hy:=j5 y (by simp)
         have hal:((m++[y]).map z1k).length=m.length+1:=by simp
         have hal2:(m++[y]).length=m.length+1:=by simp
         have hix:(m++[y])[(((((m++[y]).length:Nat):Int)-1)).toNat]? =some y:=by
          rw[hal2,show (((m.length+1:Nat):Int)-1).toNat=m.length by omega];simp
         have hse:(m++[y]).set (((((m++[y]).length:Nat):Int)-1)).toNat ((y.1,e.2.1,y.2.2):Arc)=m++[(y.1,e.2.1,y.2.2)]:=by
          rw[hal2,show (((m.length+1:Nat):Int)-1).toNat=m.length by omega];simp
         rw[z2x] at ihj'
         by_cases hj:y.2.1+1=e.1∧y.2.2=(ks2.length:Nat)
         · have hyq:(y.1,e.2.1,((ks2.length:Nat):Int))=((y.1,e.2.1,y.2.2):Arc):=by rw[hj.2]
           rw[zAz hj,hyq] at ihj'
           repeat' (first|(apply z0y;(refine z07 (z3i (et:=3) (a:=e.2.2) (q:=z2d 0 ks2) (z0:=Value.int .i64 0) (py:=xP e.2.2) xG (z1l (by kernel_rfl)) rfl rfl rfl xW rfl hget1 hget2) ?_))|(apply z0b;(first|refine z09 (z0x (u:=z0v y.2.1) hix) rfl rfl ?_| refine z09 (z0x (u:=z0u y.2.2) hix) rfl rfl ?_))|(apply z01;(first|refine z04 (z0k (ys:=es.map xE) rfl (idx he)) rfl rfl ?_| refine z04 (z2n rfl) rfl rfl ?_))|(apply z02;(refine z09 (z2n rfl) rfl rfl ?_))|(apply z0z;(refine z09 (z16 (z8h (by omega) (by omega))) rfl rfl ?_))|(apply z15;(first|refine z04 (z0s rfl) rfl rfl ?_| refine z48 (g:=xC) e.2.2 rfl ?_| refine z48 (g:=z1k) (e.1,e.2.1,((ks2.length:Nat):Int)) rfl ?_))|(apply z0n;(refine z23 ((y.1,e.2.1,y.2.2):Arc) hix hse ?_))|refine stq ?_|refine fk (fun _=>?_) (fun _=>?_)|(apply z0y;(refine z3b (et:=3) (a:=e.2.2) (v:=z0u (ks2.length:Nat)) (py:=xP e.2.2) (q:=z2d 0 ks2) (by kernel_rfl) xG rfl rfl xW rfl rfl rfl ?_))|(refine z19 (fun hg=>?_) (fun hg=>?_)<;> simp only[hg] <;> (try simp only[zA3,zA5,zA6,zA8] at hg)))
           all_goals try (exfalso;omega)
           all_goals refine z18 61 1000 ?_
           all_goals exact z00 ihj' rfl rfl
         · rw[zAy hj] at ihj'
           repeat' (first|(apply z0y;(refine z07 (z3i (et:=3) (a:=e.2.2) (q:=z2d 0 ks2) (z0:=Value.int .i64 0) (py:=xP e.2.2) xG (z1l (by kernel_rfl)) rfl rfl rfl xW rfl hget1 hget2) ?_))|(apply z0b;(first|refine z09 (z0x (u:=z0v y.2.1) hix) rfl rfl ?_| refine z09 (z0x (u:=z0u y.2.2) hix) rfl rfl ?_))|(apply z01;(first|refine z04 (z0k (ys:=es.map xE) rfl (idx he)) rfl rfl ?_| refine z04 (z2n rfl) rfl rfl ?_))|(apply z02;(refine z09 (z2n rfl) rfl rfl ?_))|(apply z0z;(refine z09 (z16 (z8h (by omega) (by omega))) rfl rfl ?_))|(apply z15;(first|refine z04 (z0s rfl) rfl rfl ?_| refine z48 (g:=xC) e.2.2 rfl ?_| refine z48 (g:=z1k) (e.1,e.2.1,((ks2.length:Nat):Int)) rfl ?_))|(apply z0n;(refine z23 ((y.1,e.2.1,y.2.2):Arc) hix hse ?_))|refine stq ?_|refine fk (fun _=>?_) (fun _=>?_)|(apply z0y;(refine z3b (et:=3) (a:=e.2.2) (v:=z0u (ks2.length:Nat)) (py:=xP e.2.2) (q:=z2d 0 ks2) (by kernel_rfl) xG rfl rfl xW rfl rfl rfl ?_))|(refine z19 (fun hg=>?_) (fun hg=>?_)<;> simp only[hg] <;> (try simp only[zA3,zA5,zA6,zA8] at hg)))
           all_goals try (exfalso;omega)
           all_goals refine z18 61 1000 ?_
           all_goals refine z18 103 1003 ?_
           all_goals exact z00 ihj' rfl rfl
   · obtain rfl:j=es.length:=by omega
     rw[zAs,List.foldl_nil] at j6
     rw[← j6] at i6
     simp only at i6
     have hi2:=(zA1.1 j4).1
     refine z0o 1003 rfl ?_
     by_cases hlim:lim.toNat<ks2.length
     · rw[zAz hlim] at i6
       rw[← i6]
       repeat' (first|(apply z15;(refine z04 (z0s rfl) rfl rfl ?_))|refine stq ?_|refine fk (fun _=>?_) (fun _=>?_))
       all_goals try (exfalso;omega)
       all_goals exact z05 xN _ (z0i rfl rfl rfl rfl rfl rfl rfl) ⟨rfl,rfl⟩
     · rw[zAy hlim] at i6
       have ih':=ih (i+1,ks2,⟨F++[fb],A++[arcs]⟩) ⟨by simp only;omega,by simp only;omega,by simp only;omega,by simp[i4],by simp[i5],j7,by rw[← i6];simp only;rw[show lim.toNat+1-(i+1)=n by omega]⟩ (by simp only;omega)
       simp only at ih'
       repeat' (first|(apply z0b;(refine z09 (z4v j4 rfl rfl) rfl rfl ?_))|(apply z02;(refine z09 (z10 rfl (by simp only[zA4];omega)) rfl rfl ?_))|(apply z15;(first|refine z04 (z0s rfl) rfl rfl ?_| refine z48 (g:=z25) arcs rfl ?_))|(apply z43;(refine z55 (g:=boc) (by first|exact rfl|exact⟨_,rfl,rfl,rfl⟩) rfl rfl fb rfl rfl rfl rfl rfl rfl rfl (by decide) (by omega) ?_))|(apply z0l;(refine zui (first:=[]) (cap:=xA) (ps:=[xP k]) hff (by first|exact rfl|exact⟨_,rfl,rfl,rfl⟩) rfl rfl (hb _ _ _) (by decide) ?_))|(apply z14;(refine z7x (by first|exact rfl|exact⟨_,rfl,rfl,rfl⟩) rfl rfl rfl rfl rfl ?_))|refine stq ?_|refine fk (fun _=>?_) (fun _=>?_))
       all_goals try (exfalso;omega)
       all_goals refine z18 119 1001 ?_
       all_goals refine z18 125 1002 ?_
       all_goals exact z00 ih' rfl rfl
 · obtain rfl:i=ks.length:=by omega
   obtain⟨n,hn⟩:∃ n,lim.toNat+1-ks.length=n+1:=⟨lim.toNat-ks.length,by omega⟩
   rw[hn,exL,zAv (zAj _)] at i6
   simp only at i6
   rw[← i6]
   refine z0o 1001 rfl ?_
   refine z0o 1002 rfl ?_
   repeat' (first|(apply z15;(refine z04 (z0s rfl) rfl rfl ?_))|refine stq ?_|refine fk (fun _=>?_) (fun _=>?_))
   all_goals try (exfalso;omega)
   all_goals exact z05 xN _ (z0i rfl rfl rfl rfl rfl rfl rfl) ⟨rfl,rfl⟩):p:=h
theorem zD2 {p:Prop} (h:p:=by
 obtain⟨e,he⟩:∃ e,es[j]? =some e:=⟨_,zA0 hjl⟩
 obtain⟨r1,r2,r3⟩:=hE2 e (zA2 he)
 rw[drop_cons he,List.foldl_cons,z4n] at j6
 simp only at j6
 have hal:=z7s ks2 e.2.2
 have hln:=z8n arcs e.1 e.2.1 (z2r e.2.2 ks2:Nat)
 have ihj':=ihj (j+1,z5b ks2 e.2.2,ext arcs e.1 e.2.1 (z2r e.2.2 ks2:Nat)) ⟨by simp only;omega,by simp only;omega,by simp only;omega,by simp only;obtain⟨x,hx⟩:=z6b ks2 e.2.2;rw[hx,zAb (zA1.1 j4).1];exact j4,fun y hy=>by
  rcases ext_mem hy with h|h
  · omega
  · exact j5 y h,fun x hx=>by
  rcases z7h hx with h|h
  · rw[h];exact hE3 e (zA2 he)
  · exact j7 x h,j6⟩ (by simp only;omega)
 have hget:=z5t e.2.2 ks2 0
 clear ihj hal
 by_cases hknown:e.2.2∈ks2
 · rw[z5b,zAz hknown] at ihj'
   rw[zAz hknown,Nat.zero_add] at hget
   have hget1:(z4d (z2d 0 ks2) e.2.2).getD (.lit (.int .i64 0))=z0u (z2r e.2.2 ks2:Nat):=by rw[hget];rfl
   have hget2:(z4d (z2d 0 ks2) e.2.2).isSome=true:=by rw[hget];rfl
   generalize z2r e.2.2 ks2=qv at *
   rcases zft arcs with rfl|⟨m,y,rfl⟩
   · rw[ext_nil] at ihj'
     repeat' (first|(apply z0y;(refine z07 (z3i (et:=3) (a:=e.2.2) (q:=z2d 0 ks2) (z0:=Value.int .i64 0) (py:=I .i64 e.2.2) z89 (z1l (by kernel_rfl)) rfl rfl rfl z8a rfl hget1 hget2) ?_))|(apply z01;(refine z04 (z0k (ys:=es.map z1k) rfl (idx he)) rfl rfl ?_))|(apply z15;(first|refine z04 (z0s rfl) rfl rfl ?_| refine z45 (g:=z1k) rfl rfl (e.1,e.2.1,((qv:Nat):Int)) rfl rfl rfl rfl rfl rfl rfl (by decide) (by simp) ?_))|refine stq ?_|refine fk (fun _=>?_) (fun _=>?_))
     all_goals try (exfalso;first|omega|(simp at *;done))
     all_goals skip
     all_goals refine z18 103 1003 ?_
     all_goals exact z00 ihj' rfl rfl
   · have hy:=j5 y (by simp)
     have hal:((m++[y]).map z1k).length=m.length+1:=by simp
     have hal2:(m++[y]).length=m.length+1:=by simp
     have hix:(m++[y])[(((((m++[y]).length:Nat):Int)-1)).toNat]? =some y:=by
      rw[hal2,show (((m.length+1:Nat):Int)-1).toNat=m.length by omega];simp
     have hse:(m++[y]).set (((((m++[y]).length:Nat):Int)-1)).toNat ((y.1,e.2.1,y.2.2):Arc)=m++[(y.1,e.2.1,y.2.2)]:=by
      rw[hal2,show (((m.length+1:Nat):Int)-1).toNat=m.length by omega];simp
     rw[z2x] at ihj'
     by_cases hj:y.2.1+1=e.1∧y.2.2=(qv:Nat)
     · have hyq:(y.1,e.2.1,((qv:Nat):Int))=((y.1,e.2.1,y.2.2):Arc):=by rw[hj.2]
       rw[zAz hj,hyq] at ihj'
       repeat' (first|(apply z0y;(refine z07 (z3i (et:=3) (a:=e.2.2) (q:=z2d 0 ks2) (z0:=Value.int .i64 0) (py:=I .i64 e.2.2) z89 (z1l (by kernel_rfl)) rfl rfl rfl z8a rfl hget1 hget2) ?_))|(apply z0b;(first|refine z09 (z0x (u:=z0v y.2.1) hix) rfl rfl ?_| refine z09 (z0x (u:=z0u y.2.2) hix) rfl rfl ?_))|(apply z01;(first|refine z04 (z0k (ys:=es.map z1k) rfl (idx he)) rfl rfl ?_| refine z04 (z2n rfl) rfl rfl ?_))|(apply z02;(refine z09 (z2n rfl) rfl rfl ?_))|(apply z0z;(refine z09 (z16 (z8h (by omega) (by omega))) rfl rfl ?_))|(apply z15;(first|refine z04 (z0s rfl) rfl rfl ?_| refine z48 (g:=z1k) (e.1,e.2.1,((qv:Nat):Int)) rfl ?_))|(apply z0n;(refine z23 ((y.1,e.2.1,y.2.2):Arc) hix hse ?_))|refine stq ?_|refine fk (fun _=>?_) (fun _=>?_)|(refine z19 (fun hg=>?_) (fun hg=>?_)<;> simp only[hg] <;> (try simp only[zA3,zA5,zA6,zA8] at hg)))
       all_goals try (exfalso;omega)
       all_goals skip
       all_goals exact z00 ihj' rfl rfl
     · rw[zAy hj] at ihj'
       repeat' (first|(apply z0y;(refine z07 (z3i (et:=3) (a:=e.2.2) (q:=z2d 0 ks2) (z0:=Value.int .i64 0) (py:=I .i64 e.2.2) z89 (z1l (by kernel_rfl)) rfl rfl rfl z8a rfl hget1 hget2) ?_))|(apply z0b;(first|refine z09 (z0x (u:=z0v y.2.1) hix) rfl rfl ?_| refine z09 (z0x (u:=z0u y.2.2) hix) rfl rfl ?_))|(apply z01;(first|refine z04 (z0k (ys:=es.map z1k) rfl (idx he)) rfl rfl ?_| refine z04 (z2n rfl) rfl rfl ?_))|(apply z02;(refine z09 (z2n rfl) rfl rfl ?_))|(apply z0z;(refine z09 (z16 (z8h (by omega) (by omega))) rfl rfl ?_))|(apply z15;(first|refine z04 (z0s rfl) rfl rfl ?_| refine z48 (g:=z1k) (e.1,e.2.1,((qv:Nat):Int)) rfl ?_))|(apply z0n;(refine z23 ((y.1,e.2.1,y.2.2):Arc) hix hse ?_))|refine stq ?_|refine fk (fun _=>?_) (fun _=>?_)|(refine z19 (fun hg=>?_) (fun hg=>?_)<;> simp only[hg] <;> (try simp only[zA3,zA5,zA6,zA8] at hg)))
       all_goals try (exfalso;omega)
       all_goals skip
       all_goals refine z18 103 1003 ?_
       all_goals exact z00 ihj' rfl rfl
 · rw[z5b,zAy hknown,z2y hknown] at ihj'
   rw[z2y hknown] at hln
   rw[zAy hknown] at hget
   have hget1:(z4d (z2d 0 ks2) e.2.2).getD (.lit (.int .i64 0))=z0u 0:=by rw[hget];rfl
   have hget2:(z4d (z2d 0 ks2) e.2.2).isSome=false:=by rw[hget];rfl
   have hput:=z7q hknown
   dsimp only[mpI] at ihj'
   rw[← hput] at ihj'
   rcases zft arcs with rfl|⟨m,y,rfl⟩
   · rw[ext_nil] at ihj'
     repeat' (first|(apply z0y;(refine z07 (z3i (et:=3) (a:=e.2.2) (q:=z2d 0 ks2) (z0:=Value.int .i64 0) (py:=I .i64 e.2.2) z89 (z1l (by kernel_rfl)) rfl rfl rfl z8a rfl hget1 hget2) ?_))|(apply z01;(refine z04 (z0k (ys:=es.map z1k) rfl (idx he)) rfl rfl ?_))|(apply z15;(first|refine z04 (z0s rfl) rfl rfl ?_| refine z48 (g:=icc) e.2.2 rfl ?_| refine z45 (g:=z1k) rfl rfl (e.1,e.2.1,((ks2.length:Nat):Int)) rfl rfl rfl rfl rfl rfl rfl (by decide) (by simp) ?_))|refine stq ?_|refine fk (fun _=>?_) (fun _=>?_)|(apply z0y;(refine z3b (et:=3) (a:=e.2.2) (v:=z0u (ks2.length:Nat)) (py:=I .i64 e.2.2) (q:=z2d 0 ks2) (by kernel_rfl) z89 rfl rfl z8a rfl rfl rfl ?_)))
     all_goals try (exfalso;first|omega|(simp at *;done))
     all_goals refine z18 61 1000 ?_
     all_goals refine z18 103 1003 ?_
     all_goals exact z00 ihj' rfl rfl
   · have hy:=j5 y (by simp)
     have hal:((m++[y]).map z1k).length=m.length+1:=by simp
     have hal2:(m++[y]).length=m.length+1:=by simp
     have hix:(m++[y])[(((((m++[y]).length:Nat):Int)-1)).toNat]? =some y:=by
      rw[hal2,show (((m.length+1:Nat):Int)-1).toNat=m.length by omega];simp
     have hse:(m++[y]).set (((((m++[y]).length:Nat):Int)-1)).toNat ((y.1,e.2.1,y.2.2):Arc)=m++[(y.1,e.2.1,y.2.2)]:=by
      rw[hal2,show (((m.length+1:Nat):Int)-1).toNat=m.length by omega];simp
     rw[z2x] at ihj'
     by_cases hj:y.2.1+1=e.1∧y.2.2=(ks2.length:Nat)
     · have hyq:(y.1,e.2.1,((ks2.length:Nat):Int))=((y.1,e.2.1,y.2.2):Arc):=by rw[hj.2]
       rw[zAz hj,hyq] at ihj'
       repeat' (first|(apply z0y;(refine z07 (z3i (et:=3) (a:=e.2.2) (q:=z2d 0 ks2) (z0:=Value.int .i64 0) (py:=I .i64 e.2.2) z89 (z1l (by kernel_rfl)) rfl rfl rfl z8a rfl hget1 hget2) ?_))|(apply z0b;(first|refine z09 (z0x (u:=z0v y.2.1) hix) rfl rfl ?_| refine z09 (z0x (u:=z0u y.2.2) hix) rfl rfl ?_))|(apply z01;(first|refine z04 (z0k (ys:=es.map z1k) rfl (idx he)) rfl rfl ?_| refine z04 (z2n rfl) rfl rfl ?_))|(apply z02;(refine z09 (z2n rfl) rfl rfl ?_))|(apply z0z;(refine z09 (z16 (z8h (by omega) (by omega))) rfl rfl ?_))|(apply z15;(first|refine z04 (z0s rfl) rfl rfl ?_| refine z48 (g:=icc) e.2.2 rfl ?_| refine z48 (g:=z1k) (e.1,e.2.1,((ks2.length:Nat):Int)) rfl ?_))|(apply z0n;(refine z23 ((y.1,e.2.1,y.2.2):Arc) hix hse ?_))|refine stq ?_|refine fk (fun _=>?_) (fun _=>?_)|(apply z0y;(refine z3b (et:=3) (a:=e.2.2) (v:=z0u (ks2.length:Nat)) (py:=I .i64 e.2.2) (q:=z2d 0 ks2) (by kernel_rfl) z89 rfl rfl z8a rfl rfl rfl ?_))|(refine z19 (fun hg=>?_) (fun hg=>?_)<;> simp only[hg] <;> (try simp only[zA3,zA5,zA6,zA8] at hg)))
       all_goals try (exfalso;omega)
       all_goals refine z18 61 1000 ?_
       all_goals exact z00 ihj' rfl rfl
     · rw[zAy hj] at ihj'
       repeat' (first|(apply z0y;(refine z07 (z3i (et:=3) (a:=e.2.2) (q:=z2d 0 ks2) (z0:=Value.int .i64 0) (py:=I .i64 e.2.2) z89 (z1l (by kernel_rfl)) rfl rfl rfl z8a rfl hget1 hget2) ?_))|(apply z0b;(first|refine z09 (z0x (u:=z0v y.2.1) hix) rfl rfl ?_| refine z09 (z0x (u:=z0u y.2.2) hix) rfl rfl ?_))|(apply z01;(first|refine z04 (z0k (ys:=es.map z1k) rfl (idx he)) rfl rfl ?_| refine z04 (z2n rfl) rfl rfl ?_))|(apply z02;(refine z09 (z2n rfl) rfl rfl ?_))|(apply z0z;(refine z09 (z16 (z8h (by omega) (by omega))) rfl rfl ?_))|(apply z15;(first|refine z04 (z0s rfl) rfl rfl ?_| refine z48 (g:=icc) e.2.2 rfl ?_| refine z48 (g:=z1k) (e.1,e.2.1,((ks2.length:Nat):Int)) rfl ?_))|(apply z0n;(refine z23 ((y.1,e.2.1,y.2.2):Arc) hix hse ?_))|refine stq ?_|refine fk (fun _=>?_) (fun _=>?_)|(apply z0y;(refine z3b (et:=3) (a:=e.2.2) (v:=z0u (ks2.length:Nat)) (py:=I .i64 e.2.2) (q:=z2d 0 ks2) (by kernel_rfl) z89 rfl rfl z8a rfl rfl rfl ?_))|(refine z19 (fun hg=>?_) (fun hg=>?_)<;> simp only[hg] <;> (try simp only[zA3,zA5,zA6,zA8] at hg)))
       all_goals try (exfalso;omega)
       all_goals refine z18 61 1000 ?_
       all_goals refine z18 103 1003 ?_
       all_goals exact z00 ihj' rfl rfl):p:=h
theorem zD3 {p:Prop} (h:p:=by
 clear hD4
 rintro⟨r,d5⟩ ⟨r1,r2,r3,r4⟩ ihr
 simp only at r1 r2 r3 r4 ihr ⊢
 by_cases hr:r<b∧d5[r]!<d5[r-1]!
 · rw[zup hr.1 hr.2] at r4
   have g0:d5.toList[((r:Nat):Int).toNat]? =some d5[r]!:=z1z (by omega) (by omega)
   have gc:d5.toList[(((r:Nat):Int)-1).toNat]? =some d5[r-1]!:=z1z (by omega) (by omega)
   have s1:d5.toList.set ((r:Nat):Int).toNat d5[r-1]! =(d5.setIfInBounds r d5[r-1]!).toList:=z2f (by omega) _
   have g1:(d5.setIfInBounds r d5[r-1]!).toList[(((r:Nat):Int)-1).toNat]? =some (d5.setIfInBounds r d5[r-1]!)[r-1]!:=z1z (by omega) (by simp;omega)
   have s2:(d5.setIfInBounds r d5[r-1]!).toList.set (((r:Nat):Int)-1).toNat d5[r]! =(Go.Sort.swp d5 r (r-1)).toList:=z2f (by omega) _
   have z1:(d5.setIfInBounds r d5[r-1]!).size=d5.size:=by simp
   have z2:(Go.Sort.swp d5 r (r-1)).size=d5.size:=Go.Sort.swp_size _ _ _
   have hc:=z1g d5[r]! d5[r-1]!
   rw[zAi hr.2] at hc
   have ihr':=ihr (r+1,Go.Sort.swp d5 r (r-1)) ⟨by simp only;omega,by simp only;omega,by simp only;omega,r4⟩ (by simp only;omega)
   simp only at ihr'
   obtain⟨hr1,hr2⟩:=hr
   generalize Go.Sort.swp d5 r (r-1)=d6 at *
   generalize (d5.setIfInBounds r d5[r-1]!)=d7 at *
   clear ihr ih' r4
   repeat' (first|(apply z0b;(first|refine z09 (z0x (u:=z0v d5[r]!) g0) rfl rfl ?_| refine z09 (z0x (u:=z0v d5[r-1]!) gc) rfl rfl ?_))|(apply z02;(refine z09 (z10 rfl (by simp only[zA4,zAe];omega)) rfl rfl ?_))|(apply z11;(refine z04 (z16 z1h) rfl rfl ?_))|(apply z0z;(refine z09 (z1j z1h) rfl rfl ?_))|(apply z0l;(refine z36 hc ?_))|(apply z14;(first|refine z0c d5[r-1]! (by first|exact rfl|exact⟨_,rfl,rfl,rfl⟩) rfl rfl rfl rfl g0 rfl rfl rfl s1 ?_|refine z0c d5[r]! (by first|exact rfl|exact⟨_,rfl,rfl,rfl⟩) rfl rfl rfl rfl g1 rfl rfl rfl s2 ?_))|refine stq ?_|refine fk (fun _=>?_) (fun _=>?_))
   all_goals try (exfalso;omega)
   all_goals exact z00 ihr' rfl rfl
 · rw[zby hr] at r4
   subst r4
   clear ihr
   by_cases hrb:r<b
   · skip
     have g0:d5.toList[((r:Nat):Int).toNat]? =some d5[r]!:=z1z (by omega) (by omega)
     have gc:d5.toList[(((r:Nat):Int)-1).toNat]? =some d5[r-1]!:=z1z (by omega) (by omega)
     have hc:=z1g d5[r]! d5[r-1]!
     rw[zAo (fun g=>hr ⟨hrb,g⟩)] at hc
     repeat' (first|(apply z0b;(first|refine z09 (z0x (u:=z0v d5[r]!) g0) rfl rfl ?_| refine z09 (z0x (u:=z0v d5[r-1]!) gc) rfl rfl ?_))|(apply z02;(refine z09 (z10 rfl (by simp only[zA4,zAe];omega)) rfl rfl ?_))|(apply z11;(refine z04 (z16 z1h) rfl rfl ?_))|(apply z0z;(refine z09 (z1j z1h) rfl rfl ?_))|(apply z0l;(refine z36 hc ?_))|refine stq ?_|refine fk (fun _=>?_) (fun _=>?_))
     all_goals try (exfalso;omega)
     all_goals exact z00 ih' rfl rfl
   · have hc:=z1g 0 0
     repeat' (first|refine stq ?_|refine fk (fun _=>?_) (fun _=>?_))
     all_goals try (exfalso;omega)
     all_goals exact z00 ih' rfl rfl):p:=h
theorem zD4 {p:Prop} (h:p:=by
 refine z0a ?_
 refine z00 (z0p (fun r:Nat=>⟨168,[(0,.ref (0,1000)),(1,I .i64 (a:Nat)),(10,I .i64 (q:Nat)),(11,I .i64 (r:Nat)),(101000,.al (0,1000) (1,1000))],[(1000,rwA d')],upd H (0,1000) .gone⟩) (fun r=>r≤j∧a≤r∧Go.Sort.scanDown (pR d' a) d' q r=jr) (fun r=>r) ?_ j ⟨zAj _,i4,hjr⟩) rfl rfl
 clear hjr
 clear gq
 rintro r ⟨r1,r3,r2⟩ ihr
 by_cases hr:q≤r∧¬ d'[r]!<d'[a]!
 · have gq:d'.toList[((r:Nat):Int).toNat]? =some d'[r]!:=z1z (by omega) (by omega)
   have hc:=z1g d'[r]! d'[a]!
   rw[zAo hr.2] at hc
   rw[znv (by omega) hr.1 (by simp[Go.Sort.ltInt,hr.2])] at r2
   have ih':=ihr (r-1) ⟨by omega,by omega,r2⟩ (by omega)
   obtain⟨hq1,hq2⟩:=hr
   clear ihr
   repeat' (first|(apply z0b;(first|refine z09 (z0x (u:=z0v d'[r]!) gq) rfl rfl ?_| refine z09 (z0x (u:=z0v d'[a]!) ga) rfl rfl ?_))|(apply z02;(refine z09 (z10 rfl (by simp only[zA4,zAe];omega)) rfl rfl ?_))|(apply z11;(refine z04 (z1j z1h) rfl rfl ?_))|(apply z0l;(refine z36 hc ?_))|refine stq ?_|refine fk (fun _=>?_) (fun _=>?_)|(refine z19 (fun hg=>?_) (fun hg=>?_)<;> simp only[hg] <;> (try simp only[zA3,zA5,zA6,zA8] at hg)))
   all_goals try (exfalso;omega)
   all_goals rw[show ((r:Nat):Int)-1=(r-1:Nat) by omega]
   all_goals exact z00 ih' rfl rfl
 clear ihr
 rw[za2 (fun g=>hr ⟨g.1,by have:=g.2;simpa[Go.Sort.ltInt] using this⟩)] at r2
 subst r2
 have hex2:q≤r→d'[r]!<d'[a]!:=fun g=>Decidable.byContradiction fun h=>hr ⟨g,h⟩
 by_cases hqr:r<q
 · rw[zAz hqr] at i6
   subst i6
   clear ih
   have g0:d'.toList[((r:Nat):Int).toNat]? =some d'[r]!:=z1z (by omega) (by omega)
   have gc:d'.toList[((a:Nat):Int).toNat]? =some d'[a]!:=z1z (by omega) (by omega)
   have s1:d'.toList.set ((r:Nat):Int).toNat d'[a]! =(d'.setIfInBounds r d'[a]!).toList:=z2f (by omega) _
   have g1:(d'.setIfInBounds r d'[a]!).toList[((a:Nat):Int).toNat]? =some (d'.setIfInBounds r d'[a]!)[a]!:=z1z (by omega) (by simp;omega)
   have s2:(d'.setIfInBounds r d'[a]!).toList.set ((a:Nat):Int).toNat d'[r]! =(Go.Sort.swp d' r a).toList:=z2f (by omega) _
   have z1:(d'.setIfInBounds r d'[a]!).size=d'.size:=by simp
   have z2:(Go.Sort.swp d' r a).size=d'.size:=Go.Sort.swp_size _ _ _
   have hc:=z1g 0 0
   skip
   generalize Go.Sort.swp d' r a=d2 at *
   generalize (d'.setIfInBounds r d'[a]!)=d1 at *
   repeat' (first|(apply z0b;(first|refine z09 (z0x (u:=z0v d'[a]!) ga) rfl rfl ?_| refine z09 (z0x (u:=z0v d'[r]!) g0) rfl rfl ?_))|(apply z02;(refine z09 (z10 rfl (by simp only[zA4,zAe];omega)) rfl rfl ?_))|(apply z14;(first|refine z0c d'[a]! (by first|exact rfl|exact⟨_,rfl,rfl,rfl⟩) rfl rfl rfl rfl g0 rfl rfl rfl s1 ?_|refine z0c d'[r]! (by first|exact rfl|exact⟨_,rfl,rfl,rfl⟩) rfl rfl rfl rfl g1 rfl rfl rfl s2 ?_))|refine stq ?_|refine fk (fun _=>?_) (fun _=>?_)|(refine z19 (fun hg=>?_) (fun hg=>?_)<;> simp only[hg] <;> (try simp only[zA3,zA5,zA6,zA8] at hg)))
   all_goals try (exfalso;omega)
   all_goals refine z3d (raw:=rwA d2) 1000 0 1000 ?_
   all_goals refine z05 Tryz.func135 _ z2w ⟨rfl,?_⟩
   all_goals simp[z5k,z1t]
 · rw[zAy hqr] at i6
   have g0:d'.toList[((q:Nat):Int).toNat]? =some d'[q]!:=z1z (by omega) (by omega)
   have gc:d'.toList[((r:Nat):Int).toNat]? =some d'[r]!:=z1z (by omega) (by omega)
   have s1:d'.toList.set ((q:Nat):Int).toNat d'[r]! =(d'.setIfInBounds q d'[r]!).toList:=z2f (by omega) _
   have g1:(d'.setIfInBounds q d'[r]!).toList[((r:Nat):Int).toNat]? =some (d'.setIfInBounds q d'[r]!)[r]!:=z1z (by omega) (by simp;omega)
   have s2:(d'.setIfInBounds q d'[r]!).toList.set ((r:Nat):Int).toNat d'[q]! =(Go.Sort.swp d' q r).toList:=z2f (by omega) _
   have z1:(d'.setIfInBounds q d'[r]!).size=d'.size:=by simp
   have z2:(Go.Sort.swp d' q r).size=d'.size:=Go.Sort.swp_size _ _ _
   have hc:=z1g d'[r]! d'[a]!
   rw[zAi (hex2 (by omega))] at hc
   have ih':=ih (q+1,r-1,Go.Sort.swp d' q r) ⟨by simp only;omega,by simp only;omega,by simp only;omega,by simp only;omega,by simp only;omega,i6⟩ (by simp only;omega)
   simp only at ih'
   generalize Go.Sort.swp d' q r=d2 at *
   generalize (d'.setIfInBounds q d'[r]!)=d1 at *
   clear ih i6
   repeat' (first|(apply z0b;(first|refine z09 (z0x (u:=z0v d'[a]!) ga) rfl rfl ?_| refine z09 (z0x (u:=z0v d'[q]!) g0) rfl rfl ?_| refine z09 (z0x (u:=z0v d'[r]!) gc) rfl rfl ?_))|(apply z02;(refine z09 (z10 rfl (by simp only[zA4,zAe];omega)) rfl rfl ?_))|(apply z11;(first|refine z04 (z1j z1h) rfl rfl ?_| refine z04 (z16 z1h) rfl rfl ?_))|(apply z0l;(refine z36 hc ?_))|(apply z14;(first|refine z0c d'[r]! (by first|exact rfl|exact⟨_,rfl,rfl,rfl⟩) rfl rfl rfl rfl g0 rfl rfl rfl s1 ?_|refine z0c d'[q]! (by first|exact rfl|exact⟨_,rfl,rfl,rfl⟩) rfl rfl rfl rfl g1 rfl rfl rfl s2 ?_))|refine stq ?_|refine fk (fun _=>?_) (fun _=>?_)|(refine z19 (fun hg=>?_) (fun hg=>?_)<;> simp only[hg] <;> (try simp only[zA3,zA5,zA6,zA8] at hg)))
   all_goals try (exfalso;omega)
   all_goals rw[show ((r:Nat):Int)-1=(r-1:Nat) by omega]
   all_goals exact z00 ih' rfl rfl):p:=h
theorem zD5 {p:Prop} (h:p:=by
 refine z0a ?_
 refine z00 (z0p (fun r:Nat=>⟨84,[(0,.ref (0,1000)),(1,I .i64 (a:Nat)),(9,I .i64 (q:Nat)),(10,I .i64 (r:Nat)),(101000,.al (0,1000) (1,1000))],[(1000,rwA d')],upd H (0,1000) .gone⟩) (fun r=>r≤j∧a≤r∧Go.Sort.scanDown (eR d' a) d' q r=jr) (fun r=>r) ?_ j ⟨zAj _,i4,hjr⟩) rfl rfl
 clear hjr
 clear gq
 rintro r ⟨r1,r3,r2⟩ ihr
 by_cases hr:q≤r∧d'[a]!<d'[r]!
 · have gq:d'.toList[((r:Nat):Int).toNat]? =some d'[r]!:=z1z (by omega) (by omega)
   have hc:=z1g d'[a]! d'[r]!
   rw[zAi hr.2] at hc
   rw[znv (by omega) hr.1 (by simp[Go.Sort.ltInt,hr.2])] at r2
   have ih':=ihr (r-1) ⟨by omega,by omega,r2⟩ (by omega)
   obtain⟨hq1,hq2⟩:=hr
   clear ih ihr
   repeat' (first|(apply z0b;(first|refine z09 (z0x (u:=z0v d'[r]!) gq) rfl rfl ?_| refine z09 (z0x (u:=z0v d'[a]!) ga) rfl rfl ?_))|(apply z02;(refine z09 (z10 rfl (by simp only[zA4,zAe];omega)) rfl rfl ?_))|(apply z11;(refine z04 (z1j z1h) rfl rfl ?_))|(apply z0l;(refine z36 hc ?_))|refine stq ?_|refine fk (fun _=>?_) (fun _=>?_)|(refine z19 (fun hg=>?_) (fun hg=>?_)<;> simp only[hg] <;> (try simp only[zA3,zA5,zA6,zA8] at hg)))
   all_goals try (exfalso;omega)
   all_goals rw[show ((r:Nat):Int)-1=(r-1:Nat) by omega]
   all_goals exact z00 ih' rfl rfl
 clear ihr
 rw[za2 (fun g=>hr ⟨g.1,by have:=g.2;simpa[Go.Sort.ltInt] using this⟩)] at r2
 subst r2
 have hex2:q≤r→¬ d'[a]!<d'[r]!:=fun g h=>hr ⟨g,h⟩
 by_cases hqr:r<q
 · rw[zAz hqr] at i6
   subst i6
   have hc:=z1g 0 0
   clear ih
   repeat' (first|refine stq ?_|refine fk (fun _=>?_) (fun _=>?_)|(refine z19 (fun hg=>?_) (fun hg=>?_)<;> simp only[hg] <;> (try simp only[zA3,zA5,zA6,zA8] at hg)))
   all_goals try (exfalso;omega)
   all_goals refine z3d (raw:=rwA d') 1000 0 1000 ?_
   all_goals refine z05 Tryz.func134 _ z0e ⟨rfl,?_⟩
   all_goals simp[z5k,z1t]
 · rw[zAy hqr] at i6
   have g0:d'.toList[((q:Nat):Int).toNat]? =some d'[q]!:=z1z (by omega) (by omega)
   have gc:d'.toList[((r:Nat):Int).toNat]? =some d'[r]!:=z1z (by omega) (by omega)
   have s1:d'.toList.set ((q:Nat):Int).toNat d'[r]! =(d'.setIfInBounds q d'[r]!).toList:=z2f (by omega) _
   have g1:(d'.setIfInBounds q d'[r]!).toList[((r:Nat):Int).toNat]? =some (d'.setIfInBounds q d'[r]!)[r]!:=z1z (by omega) (by simp;omega)
   have s2:(d'.setIfInBounds q d'[r]!).toList.set ((r:Nat):Int).toNat d'[q]! =(Go.Sort.swp d' q r).toList:=z2f (by omega) _
   have z1:(d'.setIfInBounds q d'[r]!).size=d'.size:=by simp
   have z2:(Go.Sort.swp d' q r).size=d'.size:=Go.Sort.swp_size _ _ _
   have ih':=ih (q+1,r-1,Go.Sort.swp d' q r) ⟨by simp only;omega,by simp only;omega,by simp only;omega,by simp only;omega,by simp only;omega,i6⟩ (by simp only;omega)
   simp only at ih'
   have hc:=z1g d'[a]! d'[r]!
   rw[zAo (hex2 (by omega))] at hc
   generalize Go.Sort.swp d' q r=d2 at *
   generalize (d'.setIfInBounds q d'[r]!)=d1 at *
   clear ih i6
   repeat' (first|(apply z0b;(first|refine z09 (z0x (u:=z0v d'[a]!) ga) rfl rfl ?_| refine z09 (z0x (u:=z0v d'[q]!) g0) rfl rfl ?_| refine z09 (z0x (u:=z0v d'[r]!) gc) rfl rfl ?_))|(apply z02;(refine z09 (z10 rfl (by simp only[zA4,zAe];omega)) rfl rfl ?_))|(apply z11;(first|refine z04 (z1j z1h) rfl rfl ?_| refine z04 (z16 z1h) rfl rfl ?_))|(apply z0l;(refine z36 hc ?_))|(apply z14;(first|refine z0c d'[r]! (by first|exact rfl|exact⟨_,rfl,rfl,rfl⟩) rfl rfl rfl rfl g0 rfl rfl rfl s1 ?_|refine z0c d'[q]! (by first|exact rfl|exact⟨_,rfl,rfl,rfl⟩) rfl rfl rfl rfl g1 rfl rfl rfl s2 ?_))|refine stq ?_|refine fk (fun _=>?_) (fun _=>?_)|(refine z19 (fun hg=>?_) (fun hg=>?_)<;> simp only[hg] <;> (try simp only[zA3,zA5,zA6,zA8] at hg)))
   all_goals try (exfalso;omega)
   all_goals rw[show ((r:Nat):Int)-1=(r-1:Nat) by omega]
   all_goals exact z00 ih' rfl rfl):p:=h
theorem zD6 {p:Prop} (h:p:=by
 repeat' (first|(apply z1c;(first|refine z04 (z0x (u:=z0u v) hv2) rfl rfl ?_| refine z04 (z0x (u:=z0u w) hw2) rfl rfl ?_))|(apply z01;(first|refine z04 (z0k (ys:=l.map z1k) rfl (idx hx)) rfl rfl ?_| refine z04 (z10 rfl (by simp only[zA4];omega)) rfl rfl ?_))|(apply z06;(refine z1i hls ?_))|(apply z0n;(refine z23 (d:Int) hv2 hset ?_))|refine stq ?_|refine fk (fun _=>?_) (fun _=>?_))
 all_goals try (exfalso;first|omega|(simp at *;done))
 all_goals exact z00 ihj' rfl rfl):p:=h
theorem zD7 {p:Prop} (h:p:=by
 obtain⟨b,hb⟩:∃ b,F[q]? =some b:=⟨_,zA0 hlt⟩
 have hcq:=zhc hb
 have ih':=ih (q+1) (by omega) (by omega)
 rw[hcq] at ih'
 have hrs:=z5r hlt
 have htl:((zba F).take q).length=q:=by rw[zAm];omega
 generalize (zba F).take q=T at *
 have hget:(T++List.replicate (F.length-q) 0)[((q:Nat):Int).toNat]? =some 0:=by
  rw[hrs,zA9,zAg (by omega),htl,Nat.sub_self];rfl
 have hset:(T++List.replicate (F.length-q) 0).set ((q:Nat):Int).toNat (-1)=T++[-1]++List.replicate (F.length-(q+1)) 0:=by
  rw[hrs,zA9,z4h htl hlt,show F.length-(q+1)=F.length-q-1 by omega];simp
 have hget2:(T++[-1]++List.replicate (F.length-(q+1)) 0)[((q:Nat):Int).toNat]? =some (-1):=by
  rw[zA9,zAl,zAg (by omega),htl,Nat.sub_self];rfl
 have hset2:(T++[-1]++List.replicate (F.length-(q+1)) 0).set ((q:Nat):Int).toNat 0=T++[0]++List.replicate (F.length-(q+1)) 0:=by
  rw[zA9]
  have:=z4h htl hlt (-1) 0
  rw[show F.length-(q+1)=F.length-q-1 by omega]
  simpa using this
 cases b with
 | false =>
  rw[zAy (by decide)] at ih'
  repeat' (first|(apply z01;(first|refine z04 (z0k (ys:=F.map boc) rfl (idx (g:=boc) hb)) rfl rfl ?_| refine z04 (z10 rfl (by simp only[zA4,zAa,zAr,htl];omega)) rfl rfl ?_))|(apply z0n;(refine z23 (-1:Int) hget hset ?_))|refine stq ?_|refine fk (fun _=>?_) (fun _=>?_))
  all_goals try (exfalso;first|omega|(simp at *;done))
  all_goals exact z00 ih' rfl rfl
 | true =>
  rw[zAz rfl] at ih'
  repeat' (first|(apply z01;(first|refine z04 (z0k (ys:=F.map boc) rfl (idx (g:=boc) hb)) rfl rfl ?_| refine z04 (z10 rfl (by simp only[zA4,zAa,zAr,zAk,List.length_nil,htl];omega)) rfl rfl ?_))|(apply z0n;(first|refine z23 (0:Int) hget2 hset2 ?_| refine z23 (-1:Int) hget hset ?_))|refine stq ?_|refine fk (fun _=>?_) (fun _=>?_))
  all_goals try (exfalso;first|omega|(simp at *;done))
  all_goals exact z00 ih' rfl rfl):p:=h
theorem zD8 {p:Prop} (h:p:=by
 all_goals try (exfalso;omega)
 all_goals exact z00 ih' rfl rfl):p:=h
theorem zD9 {p:Prop} (h:p:=by
 rw[zAz hqr] at hR
 have g0:d'.toList[((r:Nat):Int).toNat]? =some d'[r]!:=z1z (by omega) (by omega)
 have gc:d'.toList[((a:Nat):Int).toNat]? =some d'[a]!:=z1z (by omega) (by omega)
 have s1:d'.toList.set ((r:Nat):Int).toNat d'[a]! =(d'.setIfInBounds r d'[a]!).toList:=z2f (by omega) _
 have g1:(d'.setIfInBounds r d'[a]!).toList[((a:Nat):Int).toNat]? =some (d'.setIfInBounds r d'[a]!)[a]!:=z1z (by omega) (by simp;omega)
 have s2:(d'.setIfInBounds r d'[a]!).toList.set ((a:Nat):Int).toNat d'[r]! =(Go.Sort.swp d' r a).toList:=z2f (by omega) _
 have z1:(d'.setIfInBounds r d'[a]!).size=d'.size:=by simp
 have z2:(Go.Sort.swp d' r a).size=d'.size:=Go.Sort.swp_size _ _ _
 have hc:=z1g 0 0
 subst hR
 generalize Go.Sort.swp d' r a=d2 at *
 generalize (d'.setIfInBounds r d'[a]!)=d1 at *
 repeat' (first|(apply z0b;(first|refine z09 (z0x (u:=z0v d'[a]!) ga) rfl rfl ?_| refine z09 (z0x (u:=z0v d'[r]!) g0) rfl rfl ?_))|(apply z02;(refine z09 (z10 rfl (by simp only[zA4,zAe];omega)) rfl rfl ?_))|(apply z14;(first|refine z0c d'[a]! (by first|exact rfl|exact⟨_,rfl,rfl,rfl⟩) rfl rfl rfl rfl g0 rfl rfl rfl s1 ?_|refine z0c d'[r]! (by first|exact rfl|exact⟨_,rfl,rfl,rfl⟩) rfl rfl rfl rfl g1 rfl rfl rfl s2 ?_))|refine stq ?_|refine fk (fun _=>?_) (fun _=>?_)|(refine z19 (fun hg=>?_) (fun hg=>?_)<;> simp only[hg] <;> (try simp only[zA3,zA5,zA6,zA8] at hg)))
 all_goals try (exfalso;omega)
 all_goals refine z3d (raw:=rwA d2) 1000 0 1000 ?_
 all_goals refine z05 Tryz.func135 _ z2w ⟨rfl,?_⟩
 all_goals simp[z5k,z1t]):p:=h
theorem zD10 {p:Prop} (h:p:=by
 skip
 repeat' (first|(apply z11;(first|refine z04 (z16 z1h) rfl rfl ?_| refine z04 (z1j z1h) rfl rfl ?_| refine z04 (z6n z1h) rfl rfl ?_| refine z04 (zbb (by omega) (by decide) z1h) rfl rfl ?_))|(apply z06;(first|refine z2u e rfl rfl rfl (by decide) ?_|refine z2u e3 rfl rfl rfl (by decide) ?_|refine z2u e2 rfl rfl rfl (by decide) ?_|refine z2u e1 rfl rfl rfl (by decide) ?_))|(apply z4t;((refine z07 (z4a rfl rfl (by decide)) ?_;refine zen 9 900 rfl rfl ?_)))|refine stq ?_|refine fk (fun _=>?_) (fun _=>?_))
 all_goals try (exfalso;omega)
 all_goals refine z3d (raw:=rwA d) 1000 0 1000 ?_
 all_goals exact z05 Tryz.func130 _ z2w ⟨rfl,zhx hX⟩):p:=h
theorem zD11 {p:Prop} (h:p:=by
 generalize zdt P x=ep at *
 repeat' (first|(apply z0y;(first|refine z07 (z3i (et:=3) (a:=kk) (q:=z2d 0 ks2) (z0:=Value.int .i64 0) (py:=I .i64 kk) z89 (z1l (by kernel_rfl)) rfl rfl rfl z8a rfl hget1 hget2) ?_|refine z3b (et:=3) (a:=kk) (v:=z0u (os2.length:Nat)) (py:=I .i64 kk) (q:=z2d 0 ks2) (by kernel_rfl) z89 rfl rfl z8a rfl rfl rfl ?_))|(apply z01;(first|refine z04 (z0k (ys:=N.map z62) rfl (z4k (g:=z62) hr0)) rfl rfl ?_| refine z04 (z0k (ys:=P.map fun x=>[z0v x]) rfl (idx (g:=fun x=>[z0v x]) hp)) rfl rfl ?_| refine z04 (z0k (ys:=r.map fun x=>[z0u x]) rfl (idx (g:=fun x=>[z0u x]) hnn)) rfl rfl ?_| refine z04 (z0k (ys:=lv.map boc) rfl (z4k (g:=boc) hlv)) rfl rfl ?_| refine z04 (z0k (ys:=cl.map fun x=>[z0u x]) rfl (z4k (g:=fun x=>[z0u x]) hcn)) rfl rfl ?_))|(apply z15;(refine z48 (g:=icc) nn rfl ?_))|(apply z06;(first|refine zfi 1000 (fun H hX=>hxn H (hX.trans rfl)) rfl rfl (by decide) rfl ?_|refine z1i hen ?_))|refine stq ?_|refine fk (fun _=>?_) (fun _=>?_))
 all_goals try (exfalso;first|omega|(simp at *;done))
 all_goals refine z18 90 1003 ?_
 all_goals refine z18 98 1000 ?_
 all_goals exact z00 ihx' rfl rfl):p:=h
theorem zD12 {p:Prop} (h:p:=by
 have z1:(d'.setIfInBounds i d'[y]!).size=d'.size:=by simp
 generalize Go.Sort.swp d' i y=d2 at *
 generalize (d'.setIfInBounds i d'[y]!)=d1 at *
 repeat' (first|(apply z0b;(first|refine z09 (z0x (u:=z0v d'[i]!) g0) rfl rfl ?_| refine z09 (z0x (u:=z0v d'[y]!) gc) rfl rfl ?_))|(apply z02;(refine z09 (z10 rfl (by simp only[zA4,zAe];omega)) rfl rfl ?_))|(apply z11;(first|refine z04 (zbb (by omega) (by decide) z1h) rfl rfl ?_| refine z04 (z6n z1h) rfl rfl ?_| refine z04 z6g rfl rfl ?_| refine z04 (z1j (znt (by omega) (by omega))) rfl rfl ?_| refine z04 (z1j z1h) rfl rfl ?_| refine z04 (z16 z1h) rfl rfl ?_))|(apply z0z;(refine z09 (z16 z1h) rfl rfl ?_))|(apply z06;(refine z2p hx rfl rfl (by decide) ?_))|(apply z14;(first|refine z0c d'[y]! (by first|exact rfl|exact⟨_,rfl,rfl,rfl⟩) rfl rfl rfl rfl g0 rfl rfl rfl s1 ?_|refine z0c d'[i]! (by first|exact rfl|exact⟨_,rfl,rfl,rfl⟩) rfl rfl rfl rfl g1 rfl rfl rfl s2 ?_))|(apply z52;(refine z04 (z7e rfl rfl z1h) rfl rfl ?_))|refine stq ?_|refine fk (fun _=>?_) (fun _=>?_))
 all_goals exact zD8):p:=h
theorem zD13 {p:Prop} (h:p:=by
 generalize hv:a.tmps.getD t undef=v at hp
 cases hp with
 | ptr _ _ g' hg' =>
  rw[hβ] at hg';simp at hg';subst hg'
  have hlen:cur.length=ti.size:=by rw[← hl,zA4,hs]
  have:=z1a (P:=P) hty g 0 cur w hlen (fun j v hj=>by
   rw[Nat.zero_add,cell_of_row w g j _ tt (0,0) hg];simpa using hj)
  rcases this with h'|h'
  · have hv2:a.tmps[t]?.getD undef=.pointer (some ⟨g,0,none⟩):=by rw[← Array.getD_eq_getD_getElem?];exact hv
    simp[results,h,hv2,asAddr,h',ha]
  · rw[ha] at h';cases h'.1):p:=h
theorem zD14 {p:Prop} (h:p:=by
 generalize zdt P x=ep at *
 repeat' (first|(apply z0y;(refine z07 (z3i (et:=3) (a:=kk) (q:=z2d 0 ks2) (z0:=Value.int .i64 0) (py:=I .i64 kk) z89 (z1l (by kernel_rfl)) rfl rfl rfl z8a rfl hget1 hget2) ?_))|(apply z01;(first|refine z04 (z0k (ys:=N.map z62) rfl (z4k (g:=z62) hr0)) rfl rfl ?_| refine z04 (z0k (ys:=P.map fun x=>[z0v x]) rfl (idx (g:=fun x=>[z0v x]) hp)) rfl rfl ?_| refine z04 (z0k (ys:=r.map fun x=>[z0u x]) rfl (idx (g:=fun x=>[z0u x]) hnn)) rfl rfl ?_| refine z04 (z0k (ys:=lv.map boc) rfl (z4k (g:=boc) hlv)) rfl rfl ?_| refine z04 (z0k (ys:=cl.map fun x=>[z0u x]) rfl (z4k (g:=fun x=>[z0u x]) hcn)) rfl rfl ?_))|(apply z06;(first|refine zfi 1000 (fun H hX=>hxn H (hX.trans rfl)) rfl rfl (by decide) rfl ?_|refine z1i hen ?_))|refine stq ?_|refine fk (fun _=>?_) (fun _=>?_))
 all_goals try (exfalso;first|omega|(simp at *;done))
 all_goals skip
 all_goals refine z18 98 1000 ?_
 all_goals exact z00 ihx' rfl rfl):p:=h
theorem zD15 {p:Prop} (h:p:=by
 have gq:d'.toList[((r:Nat):Int).toNat]? =some d'[r]!:=z1z (by omega) (by omega)
 have hc:=z1g d'[r]! d'[a]!
 rw[zAo hr.2] at hc
 rw[znv (by omega) hr.1 (by simp[Go.Sort.ltInt,hr.2])] at r2
 have ih':=ihr (r-1) ⟨by omega,by omega,r2⟩ (by omega)
 obtain⟨hq1,hq2⟩:=hr
 clear ihr
 repeat' (first|(apply z0b;(first|refine z09 (z0x (u:=z0v d'[r]!) gq) rfl rfl ?_| refine z09 (z0x (u:=z0v d'[a]!) ga) rfl rfl ?_))|(apply z02;(refine z09 (z10 rfl (by simp only[zA4,zAe];omega)) rfl rfl ?_))|(apply z11;(refine z04 (z1j z1h) rfl rfl ?_))|(apply z0l;(refine z36 hc ?_))|refine stq ?_|refine fk (fun _=>?_) (fun _=>?_)|(refine z19 (fun hg=>?_) (fun hg=>?_)<;> simp only[hg] <;> (try simp only[zA3,zA5,zA6,zA8] at hg)))
 all_goals try (exfalso;omega)
 all_goals rw[show ((r:Nat):Int)-1=(r-1:Nat) by omega]
 all_goals exact z00 ih' rfl rfl):p:=h
theorem zD16 {p:Prop} (h:p:=by
 repeat' (first|(apply z0b;(first|refine z09 (z0x (u:=z0v d'[q]!) gq) rfl rfl ?_| refine z09 (z0x (u:=z0v d'[a]!) ga) rfl rfl ?_))|(apply z02;(refine z09 (z10 rfl (by simp only[zA4,zAe];omega)) rfl rfl ?_))|(apply z11;(refine z04 (z16 z1h) rfl rfl ?_))|(apply z0l;(refine z36 hc ?_))|refine stq ?_|(refine z19 (fun hg=>?_) (fun hg=>?_)<;> simp only[hg] <;> (try simp only[zA3,zA5,zA6,zA8] at hg)))
 all_goals exact zD8):p:=h
theorem zD17 {p:Prop} (h:p:=by
 rw[← i2]
 clear ih i2
 repeat' (first|(apply z0b;(first|refine z09 (z0x (u:=z0v d'[F+(2*r+1)]!) ga) rfl rfl ?_| refine z09 (z0x (u:=z0v d'[F+(2*r+2)]!) gb) rfl rfl ?_| refine z09 (z0x (u:=z0v d'[F+r]!) g0) rfl rfl ?_))|(apply z02;(refine z09 (z10 rfl (by simp only[zA4,zAe];omega)) rfl rfl ?_))|(apply z11;(first|refine z04 (z6n z1h) rfl rfl ?_| refine z04 (z16 z1h) rfl rfl ?_))|(apply z0z;(refine z09 (z16 z1h) rfl rfl ?_))|(apply z0l;(first|refine z36 hc1 ?_| refine z36 hc0 ?_))|refine stq ?_|refine fk (fun _=>?_) (fun _=>?_)|(refine z19 (fun hg=>?_) (fun hg=>?_)<;> simp only[hg] <;> (try simp only[zA3,zA5,zA6,zA8] at hg)))
 all_goals try (exfalso;omega)
 all_goals refine z3d (raw:=rwA d') 1000 0 1000 ?_
 all_goals refine z05 Tryz.func141 _ (z27 rfl) ⟨rfl,?_⟩
 all_goals simp[z5k,z1t]):p:=h
theorem zD18 {p:Prop} (h:p:=by
 all_goals try (exfalso;first|omega|(simp at *;done))
 all_goals exact z00 ih' rfl rfl):p:=h
theorem zD19 {p:Prop} (h:p:=by
 rw[zAy ho] at k2
 simp only[zrg,zAu,zA7,zA3,not_or,not_and] at ho
 have ihk':=ihk (k+2) ⟨by omega,by rw[hpk];exact k2,fun y hy=>by rw[hpk] at hy;cases hy;omega⟩ (by omega)
 repeat' (first|(apply z01;(refine z04 (z0k (ys:=l.map z1k) rfl (idx hx)) rfl rfl ?_))|(apply z02;(refine z09 (z0k (ys:=l.map z1k) rfl (z4k hyi)) rfl rfl ?_))|(apply z0z;(refine z09 (z16 (z8h (by omega) (by omega))) rfl rfl ?_))|refine stq ?_|refine fk (fun _=>?_) (fun _=>?_)|(refine z19 (fun hg=>?_) (fun hg=>?_)<;> simp only[hg] <;> (try simp only[zA3,zA5,zA6,zA8] at hg)))
 all_goals try (exfalso;omega)
 all_goals exact z00 ihk' rfl rfl):p:=h
theorem zD20 {p:Prop} (h:p:=by
 have hX:H 0 1000=some (rwA d):=hH ((0,1000),rwA d) (by simp)
 refine z03 Tryz.func130 (by kernel_rfl) rfl (by simp) ?_
 dsimp only[Tryz.f130]
 refine z1o 1000 0 1000 hX rfl rfl ?_
 repeat' (first|(apply z11;(first|refine z04 (z16 z1h) rfl rfl ?_| refine z04 (z1j z1h) rfl rfl ?_| refine z04 (z6n z1h) rfl rfl ?_| refine z04 (zbb (by omega) (by decide) z1h) rfl rfl ?_))|(apply z06;(refine z2u e rfl rfl rfl (by decide) ?_))|(apply z4t;((refine z07 (z4a rfl rfl (by decide)) ?_;refine zen 9 900 rfl rfl ?_)))|refine stq ?_|refine fk (fun _=>?_) (fun _=>?_))
 all_goals try (exfalso;omega)
 all_goals refine z3d (raw:=rwA d) 1000 0 1000 ?_
 all_goals exact z05 Tryz.func130 _ z2w ⟨rfl,zhx hX⟩):p:=h
theorem zD21 {p:Prop} (h:p:=by
 repeat' (first|(apply z01;(refine z04 (z0k (ys:=l.map z1k) rfl (idx hx)) rfl rfl ?_))|(apply z02;(first|refine z09 (z0k (ys:=D.map icc) rfl (zwq (g:=icc) hw)) rfl rfl ?_| refine z09 (z0k (ys:=D.map icc) rfl (idx (g:=icc) i1)) rfl rfl ?_))|(apply z06;(refine z1i hls ?_))|(apply z52;(refine z04 (z7o rfl rfl) rfl rfl ?_))|refine stq ?_|refine fk (fun _=>?_) (fun _=>?_)|(apply z0y;(refine z04 (zg0 (by have:=z4z (z88 x);omega)) rfl rfl ?_))|(refine z19 (fun hg=>?_) (fun hg=>?_)<;> simp only[hg] <;> (try simp only[zA3,zA5,zA6,zA8] at hg)))
 all_goals try (exfalso;first|omega|(simp at *;done))
 all_goals exact z00 ihj' rfl rfl):p:=h
theorem zD22 {p:Prop} (h:p:=by
 repeat' (first|(apply z0w;(refine z07 z2b ?_))|refine stq ?_|refine fk (fun _=>?_) (fun _=>?_))
 all_goals try (exfalso;omega)
 all_goals exact z05 Tryz.func100 _ z0e ⟨rfl,rfl⟩):p:=h
theorem zD23 {p:Prop} (h:p:=by
 cases p <;> cases q
 all_goals repeat' (first|refine stq ?_|refine fk (fun _=>?_) (fun _=>?_))
 all_goals try (exfalso;omega)
 all_goals exact z05 Tryz.func88 _ z0e ⟨rfl,rfl⟩):p:=h
theorem zD24 {p:Prop} (h:p:=by
 repeat' (first|(apply z15;(refine z04 (z0s rfl) rfl rfl ?_))|refine stq ?_|refine fk (fun _=>?_) (fun _=>?_))
 all_goals try (exfalso;omega)
 all_goals exact z05 Tryz.func82 _ (z0i rfl rfl rfl rfl rfl rfl rfl) ⟨rfl,rfl⟩):p:=h
theorem zD25 {p:Prop} (h:p:=by
 repeat' (first|(apply z11;(refine z04 zht rfl rfl ?_))|(apply z06;(refine zkn hl rfl hX hZ (by decide) ?_))|refine stq ?_|fail)
 all_goals exact z05 Tryz.func119 _ (z39 rfl rfl rfl rfl rfl rfl) ⟨by first|rfl|(dsimp only[ptc];rw[← ho2];rfl)|(dsimp only[ptc];rw[← ho1];rfl)|(dsimp only[ptc];rw[← ho1,← ho2];rfl),rfl⟩):p:=h
theorem zD26 {p:Prop} (h:p:=by
 repeat' (first|(apply z01;(first|refine z04 (z0k (ys:=lv.map fun r=>[rgs r]) rfl (idx (g:=fun r=>[rgs r]) hr)) rfl rfl ?_| refine z04 (z0k (ys:=pts.map rcc) rfl (idx (g:=rcc) hx)) rfl rfl ?_))|(apply z02;(refine z09 (z0k (ys:=pts.map rcc) rfl (idx (g:=rcc) hx)) rfl rfl ?_))|(apply z11;(first|refine z04 (zbd (by omega)) rfl rfl ?_| refine z04 z6g rfl rfl ?_))|(apply z0z;(first|refine z09 (zpv (by omega)) rfl rfl ?_| refine z09 zht rfl rfl ?_))|(apply z06;(refine z1i hcl ?_))|refine stq ?_|refine fk (fun _=>?_) (fun _=>?_))
 all_goals try (exfalso;omega)
 all_goals exact z00 ihn' rfl rfl):p:=h
theorem zD27 {p:Prop} (h:p:=by
 simp only[exR] at hex
 simp only[y03]
 refine z03 Tryz.func33 (by kernel_rfl) rfl (by simp) ?_
 dsimp only[Tryz.f33]
 repeat' (first | (apply z0y; (refine z8v rfl rfl (by decide) ?_)) | (apply z06; (first | refine z34 hex rfl rfl (by decide) ?_ | refine z1i hval ?_| (refine zpy rfl (hof _) (by decide) rfl (fun r H' h => ⟨_, h.1, h.2, rfl, rfl, ?_⟩)) /- zgg -/)) | (apply z0w; (refine z07 z2b ?_)) | refine stq ?_ | fail)
 all_goals try (exfalso;first|omega|(simp at *;done)|(simp at *;omega))
 all_goals exact z05 Tryz.func33 _ (z0i rfl rfl rfl rfl rfl rfl rfl) ⟨rfl,rfl⟩):p:=h
theorem zD28 {p:Prop} (h:p:=by
 repeat' (first|refine stq ?_|refine fk (fun _=>?_) (fun _=>?_))
 all_goals exact zD8):p:=h
theorem zD29 {p:Prop} (h:p:=by
 intro i' j hi' hj
 have hlt:i'*te.size+j<a.toNat*te.size:=by
  have:(i'+1)*te.size≤a.toNat*te.size:=Nat.mul_le_mul_right _ hi'
  rw[Nat.add_mul] at this;omega
 rw[his]
 simp only[madeCells,Array.getElem?_toList,Array.getElem?_map]
 rw[Array.getElem?_range]
 simp only[hlt,if_true,Option.map_some,hzsz]
 have hmod:(i'*te.size+j) % te.size=j:=by rw[Nat.add_comm,Nat.add_mul_mod_self_right];exact Nat.mod_eq_of_lt hj
 rw[hmod,← hzc,Array.getElem?_toList,getElem!_pos z.cells j (by omega),Array.getElem?_eq_getElem (by omega)]):p:=h
theorem zD30 {p:Prop} (h:p:=by
 refine⟨_,.slice (some ⟨w.heap.size,0,none⟩) a.toNat a.toNat,_,z47 β d (.slice (some ⟨w.heap.size,0,none⟩) a.toNat a.toNat),_,?_,.inl rfl,?_,hE,z1u _ _ _⟩
 · simp only[execOp,(hr.ev hx).lit,(hr.ev hy).lit]
   simp[hrun]
 · have hp':=PR.ref (β:=z47 β d (.slice (some ⟨w.heap.size,0,none⟩) a.toNat a.toNat)) (w:=w.alloc (.cells (madeCells z.cells (a.toNat*i.size)) e)) (own:=fun g=>own g∨g=w.heap.size) (0,d)
   rw[z1b] at hp'
   exact hin.put (dst:=some d) (p:=.ref (0,d)) (by simpa[St.fits] using hd) hp'):p:=h
theorem zD31 {p:Prop} (h:p:=by
 induction A with
 | nil=>rfl
 | cons q r ih=>obtain⟨kk,c⟩:=q;simp only[List.cons_append,Ab.look];split <;> simp[ih]):p:=h
theorem zD32 {p:Prop} (h:p:=by
 all_goals try (exfalso;omega)
 all_goals refine z7d 601 603 rfl (z0q (z0q (z0q hG1 (by simp)) (by simp)) (by simp)) (Or.inl rfl) rfl (Quiet.upd (Quiet.upd (Quiet.upd hQ1 rfl) rfl) rfl) ?_
 all_goals refine z7d 602 604 rfl (z0q (z0q (z0q (z0q hG2 (by simp)) (by simp)) (by simp)) (by simp)) (Or.inr rfl) rfl (Quiet.upd (Quiet.upd (Quiet.upd (Quiet.upd hQ2 rfl) rfl) rfl) rfl) ?_
 all_goals refine z3d (raw:=bbx 603 604) 600 0 600 ?_
 all_goals refine z05 Tryz.func105 _ (z39 rfl rfl rfl rfl rfl rfl) ⟨rfl,rfl⟩):p:=h
theorem zD33 {p:Prop} (h:p:=by
 cases p <;> cases q
 all_goals repeat' (first|refine stq ?_|refine fk (fun _=>?_) (fun _=>?_))
 all_goals try (exfalso;omega)
 all_goals exact z05 Tryz.func95 _ z0e ⟨rfl,rfl⟩):p:=h
theorem zD34 {p:Prop} (h:p:=by
 simp only[execOp]
 have:(Array.map (fun x:Nat × Operand=>match x with|(i,x)=>(i,a.eval x)) l.toArray)=l.toArray.map fun x=>(x.1,a.eval x.2):=rfl
 rw[this,Sem.run_bind,hrun]
 rfl):p:=h
theorem zD35 {p:Prop} (h:p:=by
 refine z03 Tryz.func106 (by kernel_rfl) rfl (by simp) ?_
 dsimp only[Tryz.f106]
 refine z1o 1000 0 1000 hH0 rfl rfl ?_
 repeat' (first|(apply z15;(refine z04 (z0s rfl) rfl rfl ?_))|(apply z06;(first|refine z1i hb ?_| refine z2p hp rfl rfl (by decide) ?_))|(apply z52;(refine z04 (z7e rfl rfl (znt (by omega) (by omega))) rfl rfl ?_))|refine stq ?_|fail)
 all_goals try (exfalso;omega)
 refine z3d (raw:=.row 21 1 ((srt M).map rcc)) 1000 0 1000 ?_
 refine zc4 Tryz.func106 _ (z27 rfl) ⟨rfl,?_⟩
 simp[z5k,z1t]):p:=h
theorem zD36 {p:Prop} (h:p:=by
 simp only[exR] at hmi
 simp only[y03]
 refine z03 Tryz.func24 (by kernel_rfl) rfl (by simp) ?_
 dsimp only[Tryz.f24]
 repeat' (first|(apply z06;(first|refine z1i hva ?_| refine z1i hvb ?_| refine z1i hp ?_| refine z1i hmi ?_))|(apply z0w;(refine z07 z2b ?_))|refine stq ?_|refine fk (fun _=>?_) (fun _=>?_))
 all_goals try (exfalso;first|omega|(simp at *;done)|(simp at *;omega))
 all_goals exact z05 Tryz.func24 _ (z0i rfl rfl rfl rfl rfl rfl rfl) ⟨rfl,rfl⟩):p:=h
theorem zD37 {p:Prop} (h:p:=by
 have ihj':=ihj (j+1,N,c) ⟨by simp only;omega,j2,j3⟩ (by simp only;omega)
 all_goals exact zD6):p:=h
theorem zD38 {p:Prop} (h:p:=by
 refine z0a ?_
 refine z00 (z0p (fun r:Nat × Array Int=>⟨133,[(0,.ref (0,1000)),(1,I .i64 (a:Nat)),(2,I .i64 (b:Nat)),(7,I .i64 (q:Nat)),(8,I .i64 (j:Nat)),(10,I .i64 (r.1:Nat)),(101000,.al (0,1000) (1,1000))],[(1000,rwA r.2)],upd H (0,1000) .gone⟩) (fun r=>r.2.size=d.size∧q<r.1∧r.1≤b∧Go.Sort.shiftUp Go.Sort.ltInt b r.1 r.2=D4) (fun r=>b-r.1) ?_ (q+1,e3) ⟨hz3,by simp only;omega,by simp only;omega,hD4⟩) rfl rfl
 exact zD3):p:=h
theorem zD39 {p:Prop} (h:p:=by
 obtain⟨i,u,z,hi,hu,hz,hs,hb,hk',_⟩:=h.get
 rw[hk] at hk'
 cases u <;> simp[TK.ofD] at hk' <;> simp_all):p:=h
theorem zD40 {p:Prop} (h:p:=by
 cases hr:Region.ready .any ops.toArray listed with
 | nil=>rfl
 | cons x xs =>
  rw[hr] at hi
  have hlt:tt % (x::xs).length<(x::xs).length:=Nat.mod_lt _ (by simp)
  simp at hi
  simp at hlt
  omega):p:=h
theorem zD41 {p:Prop} (h:p:=by
 have hw:RowKit.Below w.heap.size w { w with drawn:=w.drawn+1 }:=⟨rfl,rfl,rfl,zAj _,fun _ _=>rfl⟩
 have hdone:=key β own a { w with drawn:=w.drawn+1 } (hrep.below hw) b hb hk hn cs
 refine(hdone.ext (Below.ext hw own)).of_steps (.one ?_)
 have:=stepR_region_draw (P:=P) (b:=b) (a:={ a with defers:=b.defers }) (k:=k) (cs:=cs) (w:=w) (ops:=ops.toArray) (id:=id)
 refine this.trans ?_
 simp only[Region.schedule,hmix,Bool.true_or,if_true]
 rfl):p:=h
theorem zD42 {p:Prop} (h:p:=by
 rw[show zlq l 0=none from rfl] at k2
 simp only at k2
 have ihk':=ihk 1 ⟨by omega,by rw[hpk];exact k2,fun y hy=>by rw[hpk] at hy;cases hy;omega⟩ (by omega)
 repeat' (first|(apply z01;(refine z04 (z0k (ys:=l.map z1k) rfl (idx hx)) rfl rfl ?_))|refine stq ?_|refine fk (fun _=>?_) (fun _=>?_))
 all_goals try (exfalso;omega)
 all_goals exact z00 ihk' rfl rfl):p:=h
theorem zD43 {p:Prop} (h:p:=by
 show PV.saysL (j,x) (PV.liftL 0 cs)=PV.saysL (j,x) cs
 have h0:∀ p:PV,p.lift 0=p:=by
  intro p
  refine PV.rec (motive_1:=fun p=>p.lift 0=p) (motive_2:=fun ps=>PV.liftL 0 ps=ps) ?_ ?_ ?_ ?_ ?_ ?_ ?_ ?_ ?_ ?_ ?_ ?_ ?_ ?_ ?_ p <;> intros <;> simp_all [PV.lift,PV.liftL]
 have:∀ cs,PV.liftL 0 cs=cs:=by
  intro cs;induction cs with
  | nil=>rfl
  | cons p r ih=>simp[PV.liftL,h0,ih]
 rw[this]):p:=h
theorem zD44 {p:Prop} (h:p:=by
 simp only[exR] at he ⊢
 repeat' (first|(apply z0y;(refine z8v rfl rfl (by decide) ?_))|(apply z01;(refine z04 (z0k (ys:=cl.map icc) rfl (z4k (g:=icc) hk0i)) rfl rfl ?_))|(apply z06;(refine z34 he rfl rfl (by decide) ?_))|refine stq ?_|refine fk (fun _=>?_) (fun _=>?_))
 all_goals try (exfalso;omega)
 all_goals exact z05 Tryz.func44 _ (z0i rfl rfl rfl rfl rfl rfl rfl) ⟨rfl,rfl⟩):p:=h
theorem zD45 {p:Prop} (h:p:=by
 rw[Ab.look] at hb
 split at hb
 · rename_i h1;subst h1;simp at hb;subst hb;exact⟨by decide,by decide,by decide,zoo F A _ _⟩
 · simp[Ab.look] at hb):p:=h
theorem zD46 {p:Prop} (h:p:=by
 repeat' (first|(apply z06;(first|refine z1i h1 ?_| refine z1i h2 ?_))|refine stq ?_|refine fk (fun _=>?_) (fun _=>?_))
 all_goals try (exfalso;omega)
 all_goals exact z05 Tryz.func76 _ z0e ⟨rfl,rfl⟩):p:=h
theorem zD47 {p:Prop} (h:p:=by
 repeat' (first|(apply z6q;((exact z00 hk rfl rfl)))|(apply z11;(first|refine z04 (z1j z1h) rfl rfl ?_| refine z04 (z16 z1h) rfl rfl ?_| refine z04 (zbb (by omega) (by decide) z1h) rfl rfl ?_))|(apply z06;(first|refine z2p hi rfl rfl (by decide) ?_|refine z2p hr rfl rfl (by decide) ?_))|refine stq ?_|refine fk (fun _=>?_) (fun _=>?_))
 all_goals try (exfalso;omega)):p:=h
theorem zD48 {p:Prop} (h:p:=by
 have hbr:=hr.heap.blk (md+1,ms) _ hlook
 refine HR.install (d:=y) hr0 hfr.1 (Ext.refl w own) hr.heap.lt (v:=β (md+1,ms)) (b:=raw.lift (md+1)) (fun m c hm hc hmy g hg=>?_) (hbr.reβ (0,y) (z1v β y _) (Blk.lift_says _ _ _))
 obtain⟨h1,h2⟩:=key m c hm hc
 exact⟨rfl,(hr.heap.blk m c h2).block_lt hc hg,fun _=>hr.heap.inj m (md+1,ms) c _ h2 hlook hc hl' h1 g hg⟩):p:=h
theorem zD49 {p:Prop} (h:p:=by
 refine z03 Tryz.func31 (by kernel_rfl) rfl (by simp) ?_
 dsimp only[Tryz.f31]
 repeat' (first|(apply z06;(first|refine z1i hva ?_| refine z1i hvb ?_))|(apply z0w;(refine z07 z2b ?_))|refine stq ?_|refine fk (fun _=>?_) (fun _=>?_))
 all_goals try (exfalso;first|omega|(simp at *;done)|(simp at *;omega))
 all_goals exact z05 Tryz.func31 _ z2w ⟨rfl,rfl⟩):p:=h
theorem zD50 {p:Prop} (h:p:=by
 refine z03 Tryz.func37 (by kernel_rfl) rfl (by simp) ?_
 dsimp only[Tryz.f37]
 repeat' (first|(apply z06;(first|refine z1i hva ?_| refine z1i hvb ?_))|(apply z0w;(refine z07 z2b ?_))|refine stq ?_|refine fk (fun _=>?_) (fun _=>?_))
 all_goals try (exfalso;first|omega|(simp at *;done)|(simp at *;omega))
 all_goals exact z05 Tryz.func37 _ z2w ⟨rfl,rfl⟩):p:=h
theorem zD51 {p:Prop} (h:p:=by
 repeat' (first|refine stq ?_|refine fk (fun _=>?_) (fun _=>?_))
 all_goals try (exfalso;omega)
 all_goals (refine z05 Tryz.func104 _ z0e ⟨?_,rfl⟩;rw[hvl];simp_all <;> omega)):p:=h
theorem zD52 {p:Prop} (h:p:=by
 obtain⟨j,hj⟩:=zAw hv
 have hjl:=(zA1.1 hj).1
 rw[hlen] at hjl
 have h2:=hget (j / te.size) (j % te.size) ((Nat.div_lt_iff_lt_mul (by omega)).2 hjl) (Nat.mod_lt _ (by omega))
 rw[Nat.div_add_mod' j te.size,hj] at h2
 rw[List.all_eq_true] at hz
 exact hz v (zA2 h2.symm)):p:=h
theorem zD53 {p:Prop} (h:p:=by
 refine z03 Tryz.func21 (by kernel_rfl) rfl (by simp) ?_
 dsimp only[Tryz.f21]
 repeat' (first|(apply z06;(first|refine z1i hv ?_| refine z1i hr ?_| refine z1i hm ?_))|(apply z0w;(refine z07 z2b ?_))|refine stq ?_|fail)
 all_goals try (exfalso;first|omega|(simp at *;done))
 all_goals exact z05 Tryz.func21 _ (z0i rfl rfl rfl rfl rfl rfl rfl) ⟨rfl,rfl⟩):p:=h
theorem zD54 {p:Prop} (h:p:=by
 simp only[exR] at hex ⊢
 refine z03 Tryz.func49 (by kernel_rfl) rfl (by simp) ?_
 dsimp only[Tryz.f49]
 repeat' (first|(apply z0y;(refine z8v rfl rfl (by decide) ?_))|(apply z06;(refine z34 hex rfl rfl (by decide) ?_))|(apply z0w;(refine z07 z2b ?_))|refine stq ?_|fail)
 all_goals exact z05 Tryz.func49 _ (z0i rfl rfl rfl rfl rfl rfl rfl) ⟨rfl,rfl⟩):p:=h
theorem zD55 {p:Prop} (h:p:=by
 repeat' (first|(apply z0w;(refine z07 z2b ?_))|refine stq ?_|refine fk (fun _=>?_) (fun _=>?_))
 all_goals try (exfalso;omega)
 all_goals exact z05 Tryz.func67 _ z0e ⟨rfl,rfl⟩):p:=h
theorem zD56 {p:Prop} (h:p:=by
 repeat' (first|(apply z01;(refine z04 (z0k (ys:=l.map z1k) rfl (idx hx)) rfl rfl ?_))|(apply z06;(refine zay (first:=[]) (cap:=[]) (ps:=[.d (z7t l),I .i32 c,.fn (.func 75) [] []]) hb rfl rfl (by decide) ?_))|refine stq ?_|refine fk (fun _=>?_) (fun _=>?_))
 all_goals try (exfalso;omega)
 all_goals exact z05 Tryz.func41 _ z0e ⟨rfl,rfl⟩):p:=h
theorem zD57 {p:Prop} (h:p:=by
 repeat' (first|(apply z01;(refine z04 (z0k (ys:=l.map z1k) rfl (idx hx)) rfl rfl ?_))|(apply z06;(refine zay (first:=[]) (cap:=[]) (ps:=[.d (.agg (z1k x)),I .i32 c]) hc rfl rfl (by decide) ?_))|refine stq ?_|refine fk (fun _=>?_) (fun _=>?_))
 all_goals try (exfalso;omega)
 all_goals exact z05 Tryz.func74 _ z2w ⟨rfl,rfl⟩):p:=h
theorem zD58 {p:Prop} (h:p:=by
 have gq:d'.toList[((q:Nat):Int).toNat]? =some d'[q]!:=z1z (by omega) (by omega)
 have hc:=z1g d'[q]! d'[a]!
 rw[zAi hq.2] at hc
 rw[zze hq.1 (by simp[Go.Sort.ltInt,hq.2])] at q2
 have ih':=ihq (q+1) ⟨by omega,by omega,q2⟩ (by omega)
 obtain⟨hq1,hq2⟩:=hq
 clear ihq
 all_goals exact zD16):p:=h
theorem zD59 {p:Prop} (h:p:=by
 have h1:=hr x (zA2 hx)
 have h2:=hr y (zA2 hy)
 have:x<y:=by
  obtain⟨a1,a2⟩:=zA1.1 hx
  obtain⟨b1,b2⟩:=zA1.1 hy
  have:=List.pairwise_iff_getElem.1 hlt i (i+1) a1 b1 (by omega)
  rw[← a2,← b2];exact this
 simp only;omega):p:=h
theorem zD60 {p:Prop} (h:p:=by
 refine z03 Tryz.func45 (by kernel_rfl) rfl (by simp) ?_
 dsimp only[Tryz.f45]
 repeat' (first|(apply z0y;(refine z8v rfl rfl (by decide) ?_))|(apply z06;(refine z34 hex rfl (bk1 rfl) (by decide) ?_))|(apply z0w;(refine z07 z2b ?_))|refine stq ?_|fail)
 all_goals exact z05 Tryz.func45 _ (z39 rfl rfl rfl rfl rfl rfl) ⟨rfl,rfl⟩):p:=h
theorem zD61 {p:Prop} (h:p:=by
 clear ih
 repeat' (first|(apply z11;(refine z04 (z1j z1h) rfl rfl ?_))|(apply z06;(refine z2p hi rfl rfl (by decide) ?_))|refine stq ?_|refine fk (fun _=>?_) (fun _=>?_))
 all_goals try (exfalso;omega)
 refine z3d (raw:=rwA S) 1000 0 1000 ?_
 refine z05 Tryz.func121 _ (z27 rfl) ⟨rfl,?_⟩
 simp[z5k,z1t]):p:=h
theorem zD62 {p:Prop} (h:p:=by
 repeat' (first|(apply z01;(refine z04 (z0k (ys:=l.map z1k) rfl (z4k hxi)) rfl rfl ?_))|(apply z11;(refine z04 (zkt (by omega)) rfl rfl ?_))|(apply z06;(refine zay (first:=[]) (cap:=[]) (ps:=[.d (.agg (z1k x)),I .i32 c]) hc rfl rfl (by decide) ?_))|refine stq ?_|refine fk (fun _=>?_) (fun _=>?_))
 all_goals exact zD8):p:=h
theorem zD63 {p:Prop} (h:p:=by
 all_goals try (exfalso;omega)
 all_goals refine z3d (raw:=rwA d') 1000 0 1000 ?_
 all_goals refine z05 Tryz.func132 _ z0e ⟨rfl,?_⟩
 all_goals simp[z5k,z1t]):p:=h
theorem zD64 {p:Prop} (h:p:=by
 rw[← i2]
 repeat' (first|(apply z01;(refine z04 (z0k (ys:=L.map auc) rfl (idx (g:=auc) ha)) rfl rfl ?_))|(apply z11;(refine z04 (z16 z1h) rfl rfl ?_))|refine stq ?_|refine fk (fun _=>?_) (fun _=>?_))
 all_goals try (exfalso;omega)
 all_goals exact z05 Tryz.func15 _ z0e ⟨rfl,rfl⟩):p:=h
theorem zD65 {p:Prop} (h:p:=by
 obtain rfl:k=l.length:=by omega
 rw[zAs,zfu] at k2
 rw[← k2,zAy (by decide)] at i2
 repeat' (first|refine stq ?_|refine fk (fun _=>?_) (fun _=>?_))
 all_goals try (exfalso;omega)
 all_goals exact z00 (ih (i+1) ⟨by omega,i2⟩ (by omega)) rfl rfl):p:=h
theorem zD66 {p:Prop} (h:p:=by
 have h1:=(hlist i).2 hx
 rw[Array.getD_eq_getD_getElem?,Array.getElem?_eq_getElem (by omega)] at h1 hun
 simp at h1 hun
 rw[h1] at hun;cases hun):p:=h
theorem zD67 {p:Prop} (h:p:=by
 obtain rfl:i=ks.length:=by omega
 obtain⟨n,hn⟩:∃ n,lim.toNat+1-ks.length=n+1:=⟨lim.toNat-ks.length,by omega⟩
 rw[hn,exL,zAv (zAj _)] at i6
 simp only at i6
 rw[← i6]
 refine z0o 1001 rfl ?_
 refine z0o 1002 rfl ?_
 all_goals exact zD24):p:=h
theorem zD68 {p:Prop} (h:p:=by
 obtain rfl:j=l.length:=by omega
 rw[zAs] at j3
 cases j3
 clear ihj
 repeat' (first|refine stq ?_|refine fk (fun _=>?_) (fun _=>?_))
 all_goals try (exfalso;first|omega|(simp at *;done))
 all_goals exact z00 ihq' rfl rfl):p:=h
theorem zD69 {p:Prop} (h:p:=by
 all_goals try (exfalso;first|omega|(simp at *;done))
 all_goals refine z9h (raw:=.glob 0 τ.o0) 700 0 700 (z0q (z1s _ (0,700) _) (by simp)) ?_
 all_goals refine z9h (raw:=.glob 1 τ.o1) 701 0 701 (z0q (z1s _ (0,701) _) (by simp)) ?_
 all_goals exact z05 Tryz.func14 _ z0e ⟨rfl,zce hX0 hX1⟩):p:=h
theorem zD70 {p:Prop} (h:p:=by
 repeat' (first|(apply z06;(first|refine z2p c1 rfl rfl (by decide) ?_|refine z1i c2 ?_| refine z1i c4 ?_))|(apply z0w;(refine z07 z2b ?_))|refine stq ?_|refine fk (fun _=>?_) (fun _=>?_))
 all_goals try (exfalso;omega)
 refine z05 Tryz.func29 _ z0e ⟨?_,rfl⟩
 simp[hp]):p:=h
theorem zD71 {p:Prop} (h:p:=by
 all_goals try (exfalso;omega)
 all_goals ((repeat rw[z3e]);first|exact z05 Tryz.func138 _ (z0i rfl rfl rfl rfl rfl rfl rfl) ⟨rfl,rfl⟩|exact z05 Tryz.func138 _ z2w ⟨rfl,rfl⟩|exact z05 Tryz.func138 _ z0e ⟨rfl,rfl⟩|exact z05 Tryz.func138 _ (res_three rfl rfl rfl rfl) ⟨rfl,rfl⟩)):p:=h
theorem zD72 {p:Prop} (h:p:=by
 all_goals try (exfalso;omega)
 all_goals ((repeat rw[z3e]);first|exact z05 Tryz.func123 _ (z0i rfl rfl rfl rfl rfl rfl rfl) ⟨rfl,rfl⟩|exact z05 Tryz.func123 _ z2w ⟨rfl,rfl⟩|exact z05 Tryz.func123 _ z0e ⟨rfl,rfl⟩|exact z05 Tryz.func123 _ (res_three rfl rfl rfl rfl) ⟨rfl,rfl⟩)):p:=h
theorem zD73 {p:Prop} (h:p:=by
 all_goals try (exfalso;omega)
 all_goals ((repeat rw[z3e]);first|exact z05 Tryz.func109 _ (z0i rfl rfl rfl rfl rfl rfl rfl) ⟨rfl,rfl⟩|exact z05 Tryz.func109 _ z2w ⟨rfl,rfl⟩|exact z05 Tryz.func109 _ z0e ⟨rfl,rfl⟩|exact z05 Tryz.func109 _ (res_three rfl rfl rfl rfl) ⟨rfl,rfl⟩)):p:=h
theorem zD74 {p:Prop} (h:p:=by
 all_goals try (exfalso;omega)
 all_goals ((repeat rw[z3e]);first|exact z05 Tryz.func70 _ (z0i rfl rfl rfl rfl rfl rfl rfl) ⟨rfl,rfl⟩|exact z05 Tryz.func70 _ z2w ⟨rfl,rfl⟩|exact z05 Tryz.func70 _ z0e ⟨rfl,rfl⟩|exact z05 Tryz.func70 _ (res_three rfl rfl rfl rfl) ⟨rfl,rfl⟩)):p:=h
theorem zD75 {p:Prop} (h:p:=by
 obtain rfl:q=A.length:=by omega
 rw[zAs,zdg] at q3
 cases q3
 clear ihq
 repeat' (first|refine stq ?_|refine fk (fun _=>?_) (fun _=>?_))
 all_goals try (exfalso;first|omega|(simp at *;done))
 all_goals exact z00 ihF rfl rfl):p:=h
theorem zD76 {p:Prop} (h:p:=by
 rw[PV.liftL_get] at hx
 cases hc:cs[j]? with
 | none=>simp[hc] at hx
 | some y=>rw[hc] at hx;simp at hx;subst hx;exact ih j y v hc hv):p:=h
theorem zD77 {p:Prop} (h:p:=by
 obtain⟨h1,h2⟩:=hr
 refine⟨h1,?_⟩
 rcases h2 with h2|⟨g,cap,cur,hv,hb,hg,rest⟩
 · exact .inl h2
 · subst hv
   refine .inr ⟨g,cap,cur,rfl,hb,?_,rest⟩
   rw[(hk rfl g rfl).1];exact hg):p:=h
theorem zD78 {p:Prop} (h:p:=by
 rw[hβ] at hbr ⊢
 cases hbr with
 | lp g _ _ _ _ _ _ _ _ tmps' df' ho' hg' hl hd =>
  rw[hg] at hg';simp at hg'
  obtain⟨rfl,rfl⟩:=hg'
  exact .lp L n' f' ps asg body _ state' pend' tmps df ho hhere hl fun t p hp=>(hd t p hp).mono hE):p:=h
theorem zD79 {p:Prop} (h:p:=by
 by_cases hji:j=i
 · subst hji;simp[hsz,hilt]
 · rw[getD_set_ne false (Ne.symm hji),hlist];simp[hji]):p:=h
theorem zD80 {p:Prop} (h:p:=by
 intro hp h1 q1
 have qq:∀ x,z3t (0,x) hp=true→zd2 (push hp H) (0,x):=fun x q e t b he hb=>by
  obtain rfl:e=0:=by simp at he;omega
  exact z4w q hb
 have:=zrh s (push hp H) h1 (qq 901 q1)
 rw[zh6] at this
 exact this):p:=h
theorem zD81 {p:Prop} (h:p:=by
 all_goals try (exfalso;first|omega|(simp at *;done)|(simp at *;omega))
 all_goals exact z05 Tryz.func23 _ z0e ⟨rfl,rfl⟩):p:=h
theorem zD82 {p:Prop} (h:p:=by
 all_goals try (exfalso;first|omega|(simp at *;done)|(simp at *;omega))
 all_goals exact z05 Tryz.func38 _ z0e ⟨rfl,rfl⟩):p:=h
theorem zD83 {p:Prop} (h:p:=by
 all_goals try (exfalso;omega)
 all_goals exact z05 Tryz.func19 _ z0e ⟨rfl,rfl⟩):p:=h
theorem zD84 {p:Prop} (h:p:=by
 by_cases e3:nwD L d i (A.getD (i-(q+1)) [])=true
 · rw[zAz ⟨e2,e3⟩,zAz ⟨by omega,e3⟩]
 · rw[zAy (fun h=>e3 h.2),zAy (fun h=>e3 h.2)]):p:=h
theorem zD85 {p:Prop} (h:p:=by
 repeat' (first|(apply z15;(refine z04 (z0s rfl) rfl rfl ?_))|refine stq ?_|refine fk (fun _=>?_) (fun _=>?_))
 all_goals try (exfalso;omega)
 refine z0o 1000 rfl ?_
 exact z05 Tryz.func107 _ z0e ⟨rfl,rfl⟩):p:=h
theorem zD86 {p:Prop} (h:p:=by
 repeat' (first|(apply z0w;(refine z07 z2b ?_))|refine stq ?_|refine fk (fun _=>?_) (fun _=>?_))
 all_goals try (exfalso;simp only[zA4] at *;omega)
 all_goals exact z05 Tryz.func16 _ z0e ⟨rfl,rfl⟩):p:=h
theorem zD87 {p:Prop} (h:p:=by
 repeat' (first|(apply z0w;(refine z07 z2b ?_))|refine stq ?_|refine fk (fun _=>?_) (fun _=>?_))
 all_goals try (exfalso;simp only[zA4] at *;omega)
 all_goals exact z05 Tryz.func17 _ z0e ⟨rfl,rfl⟩):p:=h
theorem zD88 {p:Prop} (h:p:=by
 rw[zqa hv hw h1 h2 h3] at j3
 have ihj':=ihj (j+1,N.set q d,true) ⟨by simp only;omega,by rw[List.length_set];exact j2,j3⟩ (by simp only;omega)
 all_goals exact zD6):p:=h
theorem zD89 {p:Prop} (h:p:=by
 rw[zAy h]
 by_cases h2:5000+j≤s
 · rw[zAz (by omega),zAz h2,show s-(5000+j)=(s-(5000+(j+1)))+1 by omega,List.getElem?_cons_succ]
 · rw[zAy (by omega),zAy h2]):p:=h
theorem zD90 {p:Prop} (h:p:=by
 repeat' (first|(apply z6q;((exact z00 hk rfl rfl)))|(apply z11;(refine z04 (z1j z1h) rfl rfl ?_))|(apply z06;(refine z2p hi rfl rfl (by decide) ?_))|refine stq ?_|fail)
 all_goals try (exfalso;omega)):p:=h
theorem zD91 {p:Prop} (h:p:=by
 cases hx:xss[s-(5000+0)]? with
 | none=>rw[hx] at hb';cases hb'
 | some ys =>
  rw[hx] at hb'
  simp at hb';subst hb'
  simp[zl4]):p:=h
theorem zD92 {p:Prop} (h:p:=by
 rw[z9r] at hp
 cases hc:cs[j]? with
 | none=>rw[hc] at hp;simp at hp
 | some c=>rw[hc] at hp;simp at hp;subst hp;exact(hd j c v hc hv).ren):p:=h
theorem zD93 {p:Prop} (h:p:=by
 rw[zbm] at hp
 cases hc:cs[j]? with
 | none=>rw[hc] at hp;simp at hp
 | some c=>rw[hc] at hp;simp at hp;subst hp;exact PR.frz hD (hd j c v hc hv)):p:=h
theorem zD94 {p:Prop} (h:p:=by
 all_goals try (exfalso;first|omega|(simp at *;done))
 all_goals exact z05 Tryz.func35 _ z2w ⟨rfl,rfl⟩):p:=h
theorem zD95 {p:Prop} (h:p:=by
 all_goals try (exfalso;first|omega|(simp at *;done))
 all_goals exact z05 Tryz.func36 _ z2w ⟨rfl,rfl⟩):p:=h
theorem zD96 {p:Prop} (h:p:=by
 have hp:=PR.ref (β:=z47 β d v') (w:=w') (own:=fun g=>own g∨v'.ownBlock=some g) (0,d)
 rw[z1b] at hp
 exact hin.put (dst:=some d) (p:=.ref (0,d)) (by simpa[St.fits] using hd) hp):p:=h
theorem zD97 {p:Prop} (h:p:=by
 unfold z98 at hn ⊢
 cases hm:R.rnd with
 | none=>rw[hm] at hn;exact hn
 | some m =>
  rw[hm] at hn
  obtain⟨hv,L,h1,h2⟩:=hn
  exact⟨hv,L,h1,(hout m hv).trans h2⟩):p:=h
theorem zD98 {p:Prop} (h:p:=by
 repeat' (first|(apply z0w;(refine z07 z2b ?_))|refine stq ?_|refine fk (fun _=>?_) (fun _=>?_))
 all_goals try (exfalso;omega)
 all_goals exact z05 Tryz.func68 _ z2w ⟨rfl,rfl⟩):p:=h
theorem zD99 {p:Prop} (h:p:=by
 intro m c hm hc
 rw[z5g,z2j] at hm
 by_cases e:m=(md+1,ms)
 · rw[zAz e] at hm;simp[atF,Blk.lift] at hm;subst hm;cases hc
 · rw[zAy e] at hm;exact⟨e,hm⟩):p:=h
theorem zD100 {p:Prop} (h:p:=by
 generalize hxv:ac.eval x=xv at ex
 cases ex with
 | ref _=>exact hβ):p:=h
theorem zD101 {p:Prop} (h:p:=by
 all_goals try (exfalso;first|omega|(simp at *;done))
 all_goals exact z00 ihj' rfl rfl):p:=h
theorem zD102 {p:Prop} (h:p:=by
 cases hh:Ab.look pre (5000+i) with
 | none=>rfl
 | some c=>have:=(hp1 _ _ hh).1;omega):p:=h
theorem zD103 {p:Prop} (h:p:=by
 refine .d _ _ (.agg _ _ (by simpa using hl) h1 fun j x v hx hv=>?_)
 have:=hd j (.d x) v (by rw[zAd,hx];rfl) hv
 cases this with|d _ _ h=>exact h):p:=h
theorem zD104 {p:Prop} (h:p:=by
 rw[hal2,show (((m.length+1:Nat):Int)-1).toNat=m.length by omega];simp):p:=h
theorem zD105 {p:Prop} (h:p:=by
 all_goals try (exfalso;omega)
 all_goals refine z18 119 1001 ?_
 all_goals refine z18 125 1002 ?_
 all_goals exact z00 ih' rfl rfl):p:=h
theorem zD106 {p:Prop} (h:p:=by
 all_goals try (exfalso;omega)
 all_goals exact z05 Tryz.func16 _ z0e ⟨rfl,rfl⟩):p:=h
theorem zD107 {p:Prop} (h:p:=by
 all_goals try (exfalso;omega)
 all_goals exact z05 Tryz.func17 _ z0e ⟨rfl,rfl⟩):p:=h
theorem zD108 {p:Prop} (h:p:=by
 repeat' (first|refine stq ?_|refine fk (fun _=>?_) (fun _=>?_))
 all_goals try (exfalso;omega)
 exact z05 Tryz.func55 _ z0e ⟨rfl,rfl⟩):p:=h
theorem zD109 {p:Prop} (h:p:=by
 all_goals try (exfalso;omega)
 all_goals exact z05 Tryz.func115 _ z0e ⟨rfl,rfl⟩):p:=h
theorem zD110 {p:Prop} (h:p:=by
 simp only[List.nil_append] at e;subst e
 obtain⟨j,h3,h4,h5⟩:=h2
 exact⟨j,.inr ⟨h1,h3⟩,h4,(za6 hab hFb hla w j (hfb j h3)).2 h5⟩):p:=h
theorem zD111 {p:Prop} (h:p:=by
 repeat' (first|refine stq ?_|refine fk (fun _=>?_) (fun _=>?_))
 all_goals try (exfalso;omega)
 all_goals exact z05 Tryz.func73 _ z0e ⟨rfl,rfl⟩):p:=h
theorem zD112 {p:Prop} (h:p:=by
 all_goals try (exfalso;omega)
 all_goals rw[show (2*(r:Int)+1)=(((2*r+1):Nat):Int) by omega]
 all_goals exact z00 ih' rfl rfl):p:=h
theorem zD113 {p:Prop} (h:p:=by
 all_goals try (exfalso;omega)
 all_goals exact z05 Tryz.func43 _ z0e ⟨rfl,rfl⟩):p:=h
theorem zD114 {p:Prop} (h:p:=by
 obtain⟨r,hr⟩:=z7r (cl:=cl) (k:=cl.getD q 0) (j:=cl.length) (s:=q) (by omega) rfl
 have h:=z4p hr
 rw[stQ,hr]
 exact⟨by simpa[hl] using h.1,h.2⟩):p:=h
theorem zD115 {p:Prop} (h:p:=by
 rw[zae] at hx
 cases hc:cs[j]? with
 | none=>rw[hc] at hx;cases hx
 | some y=>rw[hc] at hx;simp at hx;subst hx;exact(hd j y u hc hu).alias hab):p:=h
theorem zD116 {p:Prop} (h:p:=by
 simp only[look] at hq
 split at hq
 · rename_i hh;subst hh;exact .inl ⟨rfl,by simpa using hq.symm⟩
 · exact .inr hq):p:=h
theorem zD117 {p:Prop} (h:p:=by
 repeat' (first|(apply z6q;((exact z00 hk rfl rfl)))|refine stq ?_|refine fk (fun _=>?_) (fun _=>?_))
 all_goals try (exfalso;omega)):p:=h
theorem zD118 {p:Prop} (h:p:=by
 cases v with
 | slice a l c=>cases a <;> simp[Value.ownBlock] at hg;subst hg;exact(hk rfl _ rfl).2
 | _=>simp[Value.ownBlock] at hg):p:=h
theorem zD119 {p:Prop} (h:p:=by
 rcases hr.2 with h2|⟨g,cap,cur,hv,hb,hg,rest⟩
 · exact .inl h2
 · exact .inr ⟨g,cap,cur,hv,hb,h.cell hg (by simp),rest⟩):p:=h
theorem zD120 {p:Prop} (h:p:=by
 have ih':=ih (i+1,acc2) ⟨by simp only;omega,by simp only;omega,j2⟩ (by simp only;omega)
 clear ihj ih
 all_goals exact zD28):p:=h
theorem zD121 {p:Prop} (h:p:=by
 rw[← htake,List.getElem?_take] at hj
 split at hj
 · simp only[World.cell?,hg]
   simpa using hj
 · cases hj):p:=h
theorem zD122 {p:Prop} (h:p:=by
 rcases hr.2 with h|⟨g',cap,cur,hv,_⟩
 · rw[h.1] at hg;simp[z1f] at hg
 · subst hv;simp[z1f] at hg;subst hg;exact ho _ rfl):p:=h
theorem zD123 {p:Prop} (h:p:=by
 rw[zmk]
 split
 · exact fun e=>h92 e.symm
 · rename_i hc
   intro e;rw[e,hd] at hc;exact hc rfl):p:=h
theorem zD124 {p:Prop} (h:p:=by
 rw[List.flatMap_cons,zds,zAl,zAl,zAl,z3h,zAl]
 exact zd8 _ _ rfl (by decide)):p:=h
theorem zD125 {p:Prop} (h:p:=by
 exact⟨fun m b hb=>hr.heap.blk m b (key m b hb),fun m1 m2 b1 b2 h1 h2=>hr.heap.inj m1 m2 b1 b2 (key _ _ h1) (key _ _ h2),hr.heap.lt⟩):p:=h
theorem zD126 {p:Prop} (h:p:=by
 all_goals try (exfalso;omega)
 all_goals refine z0o 47 rfl ?_
 all_goals exact z05 Tryz.func114 _ z0e ⟨rfl,rfl⟩):p:=h
theorem zD127 {p:Prop} (h:p:=by
 have h1:(te.bytes:Int)*a=((a.toNat*te.bytes:Nat):Int):=by rw[Int.natCast_mul,Int.toNat_of_nonneg h0,Int.mul_comm]
 rw[hib,h1];omega):p:=h
theorem zD128 {p:Prop} (h:p:=by
 obtain⟨c1,q1,k1⟩:=liv m1 b1 h1 l1
 obtain⟨c2,q2,k2⟩:=liv m2 b2 h2 l2
 exact hr.heap.inj m1 m2 c1 c2 q1 q2 k1 k2 hne):p:=h
theorem zD129 {p:Prop} (h:p:=by
 rcases this with h|h
 · simp only[execOp,hv,Instr.loadAt,Instr.sureAddr];simp[h,ha]
 · exact absurd hs h.2):p:=h
theorem zD130 {p:Prop} (h:p:=by
 have:=hrr.2.1
 rw[zAm,zAm,this,Nat.min_eq_left hlen,Nat.min_eq_left (Nat.mul_le_mul_right _ hlen)]):p:=h
theorem zD131 {p:Prop} (h:p:=by
 cases l with
 | nil=>rfl
 | cons s l =>
  obtain⟨_,_,h3,h4,_⟩:=hs
  have:=hb s (by simp)
  omega):p:=h
theorem zD132 {p:Prop} (h:p:=by
 simp only[execOp,hv',(hr.ev hx.2.1).lit,hv]
 simp[Instr.indexAt,asIntOf,run_underlying (ht.slice hk),h0,h1,he.sizeOf,z3j,hkk]):p:=h
theorem zD133 {p:Prop} (h:p:=by
 simp only[PV.saysL,Bool.or_eq_false_iff] at h
 simp only[List.set_cons_zero,PV.saysL,Bool.or_eq_false_iff]
 exact⟨hp,h.2⟩):p:=h
theorem zD134 {p:Prop} (h:p:=by
 simp only[zAt] at hq
 rcases hq with hq|hq
 · exact hg.agrees q hq
 · exact z2z hz1 q hq):p:=h
theorem zD135 {p:Prop} (h:p:=by
 obtain⟨b1,h1,l1⟩:=hm x bx hx lx
 obtain⟨b2,h2,l2⟩:=hm y by' hy ly
 exact h.inj x y b1 b2 h1 h2 l1 l2 hne g' hg'):p:=h
theorem zD136 {p:Prop} (h:p:=by
 all_goals try (exfalso;omega)
 all_goals rw[show ((k+1:Nat):Int)-1-1=(k:Nat)-1 by omega]
 all_goals exact z00 ih' rfl rfl):p:=h
theorem zD137 {p:Prop} (h:p:=by
 repeat' (first|(apply z6q;((exact z00 hk rfl rfl)))|refine stq ?_|fail)
 all_goals try (exfalso;omega)):p:=h
theorem zD138 {p:Prop} (h:p:=by
 all_goals try (exfalso;first|omega|(simp at *;done)|(simp at *;omega))
 all_goals exact z05 Tryz.func32 _ z0e ⟨rfl,rfl⟩):p:=h
theorem zD139 {p:Prop} (h:p:=by
 repeat' (first|(apply z0w;(refine z07 z2b ?_))|refine stq ?_|refine fk (fun _=>?_) (fun _=>?_))
 all_goals exact zD81):p:=h
theorem zD140 {p:Prop} (h:p:=by
 all_goals try (exfalso;first|omega|(simp at *;done))
 all_goals exact z05 Tryz.func23 _ z0e ⟨rfl,rfl⟩):p:=h
theorem zD141 {p:Prop} (h:p:=by
 simp[execOp,ex',ey,Instr.lookup,run_underlying hm,Go.MapKept.run_getObj_map hg,hk.check w,h2,Result.andThen,hz0]):p:=h
