/- A part. -/
import Derived.WalkKit
import Derived.RangeFuncRecord
import Derived.Laws.StructEq
import Derived.KernelRfl
import Derived.Great.BuildSlice
set_option maxRecDepth 1000000
set_option maxHeartbeats 20000000
theorem zA0:type_of% @List.getElem?_eq_getElem:=@List.getElem?_eq_getElem
theorem zA1:type_of% @List.getElem?_eq_some_iff:=@List.getElem?_eq_some_iff
theorem zA2:type_of% @List.mem_of_getElem?:=@List.mem_of_getElem?
theorem zA3:type_of% @decide_eq_true_eq:=@decide_eq_true_eq
theorem zA4:type_of% @List.length_map:=@List.length_map
theorem zA5:type_of% @decide_eq_false_iff_not:=@decide_eq_false_iff_not
theorem zA6:type_of% @Bool.not_eq_true':=@Bool.not_eq_true'
theorem zA7:type_of% @Bool.and_eq_true:=@Bool.and_eq_true
theorem zA8:type_of% @Bool.not_eq_false':=@Bool.not_eq_false'
theorem zA9:type_of% @Int.toNat_natCast:=@Int.toNat_natCast
theorem zAa:type_of% @List.length_append:=@List.length_append
theorem zAb:type_of% @List.getElem?_append_left:=@List.getElem?_append_left
theorem zAc:type_of% @List.mem_cons:=@List.mem_cons
theorem zAd:type_of% @List.getElem?_map:=@List.getElem?_map
theorem zAe:type_of% @Array.length_toList:=@Array.length_toList
theorem zAf:type_of% @Nat.zero_le:=@Nat.zero_le
theorem zAg:type_of% @List.getElem?_append_right:=@List.getElem?_append_right
theorem zAh:type_of% @Option.some.injEq:=@Option.some.injEq
theorem zAi:type_of% @decide_eq_true:=@decide_eq_true
theorem zAj:type_of% @Nat.le_refl:=@Nat.le_refl
theorem zAk:type_of% @List.length_cons:=@List.length_cons
theorem zAl:type_of% @List.append_assoc:=@List.append_assoc
theorem zAm:type_of% @List.length_take:=@List.length_take
theorem zAn:type_of% @List.length_singleton:=@List.length_singleton
theorem zAo:type_of% @decide_eq_false:=@decide_eq_false
theorem zAp:type_of% @List.getElem?_set_self:=@List.getElem?_set_self
theorem zAq:type_of% @List.mem_singleton:=@List.mem_singleton
theorem zAr:type_of% @List.length_replicate:=@List.length_replicate
theorem zAs:type_of% @List.drop_length:=@List.drop_length
theorem zAt:type_of% @List.mem_append:=@List.mem_append
theorem zAu:type_of% @Bool.or_eq_true:=@Bool.or_eq_true
theorem zAv:type_of% @List.getElem?_eq_none:=@List.getElem?_eq_none
theorem zAw:type_of% @List.getElem?_of_mem:=@List.getElem?_of_mem
theorem zAx:type_of% @Nat.lt_of_lt_of_le:=@Nat.lt_of_lt_of_le
theorem zAy:type_of% @if_neg:=@if_neg
theorem zAz:type_of% @if_pos:=@if_pos
theorem zD1{p:Prop} (h:p:=by
 rintro⟨i,ks,⟨F,A⟩⟩ ⟨i1,i2,i3,i4,i5,i7,i6⟩ ih
 simp only at i1 i2 i3 i4 i5 i6 i7 ih⊢
 by_cases hlt:i<ks.length
 ·obtain⟨k,hk⟩:∃k,ks[i]? =some k:=⟨_,zA0 hlt⟩
  obtain⟨n,hn⟩:∃n,lim.toNat+1-i=n+1:=⟨lim.toNat-i,by omega⟩
  rw[hn,exL,hk]at i6
  simp only at i6
  have hok:=i7 k (zA2 hk)
  have hff:=hfin k hok
  have hee:=hedg k hok
  obtain⟨⟨hE1,hE2⟩,hE3⟩:=hE k hok
  generalize edg k=es at *
  generalize fin k=fb at *
  repeat' first|(apply z1f;refine z07 (zaj hk rfl rfl) rfl rfl ?_)|(apply z01;refine z07 (z3d rfl) rfl rfl ?_)|(apply z14;refine z07 (z4e rfl) rfl rfl ?_)|(apply z06;refine zlt (first:=[]) (cap:=xB) (ps:=[xP k]) hee rfl rfl (hb _ _ _) (by decide) ?_)|refine z04 ?_|refine fk (fun _=>?_) fun _=>?_
  all_goals try (exfalso;simp only[zA4]at *;omega)
  refine z1j 14 1003 98 3 rfl rfl rfl ?_
  refine z0f ?_
  refine z00 (z0s (fun q:Nat × List xK × List Arc=>⟨128,[(1,.fn (.func xF) [] xA),(2,.fn (.func xH) [] xB),(3,I .i64 lim),(8,.ptr (0,8) 0),(10,.ptr (0,10) 0),(11,.ref (0,20)),(12,.ref (0,1000)),(13,I .i64 (i:Nat)),(14,.ref (0,1003)),(36,.d (.slice (es.map xE))),(37,I .i64 es.length),(38,I .i64 (q.1:Nat))],[(20,xM q.2.1),(1000,.row xT 2 (q.2.1.map xC)),(1003,.row 98 3 (q.2.2.map z3g)),(10,.box [.ref (0,1001),.ref (0,1002)]),(1001,.row 4 1 (F.map boc)),(1002,.row 96 1 (A.map z7m)),(8,.box [.d (.lit z2n),.d (.lit z2n)])],H⟩) (fun q=>q.1≤es.length∧q.2.2.length≤q.1∧q.2.1.length≤ks.length+q.1∧q.2.1[i]? =some k∧(∀y∈q.2.2,0≤y.2.1∧y.2.1≤1114111)∧(∀x∈q.2.1,ok x)∧(es.drop q.1).foldl z7f q.2=es.foldl z7f (ks,[])) (fun q=>es.length-q.1) ?_ (0,ks,[]) ⟨zAf _,zAj _,zAj _,hk,by simp,i7,rfl⟩) rfl rfl
  rintro⟨j,ks2,arcs⟩ ⟨j1,j2,j3,j4,j5,j7,j6⟩ ihj
  simp only at j1 j2 j3 j4 j5 j6 j7 ihj⊢
  by_cases hjl:j<es.length
  ·obtain⟨e,he⟩:∃e,es[j]? =some e:=⟨_,zA0 hjl⟩
   obtain⟨r1,r2,r3⟩:=hE2 e (zA2 he)
   rw[drop_cons he,List.foldl_cons,z7f]at j6
   simp only at j6
   have hal:=zhl ks2 e.2.2
   have hln:=ze4 arcs e.1 e.2.1 (z3o e.2.2 ks2:Nat)
   have ihj':=ihj (j+1,z7j ks2 e.2.2,ext arcs e.1 e.2.1 (z3o e.2.2 ks2:Nat)) ⟨by simp only;omega,by simp only;omega,by simp only;omega,by simp only;obtain⟨x,hx⟩:=z89 ks2 e.2.2;rw[hx,zAb (zA1.1 j4).1];exact j4,fun y hy=>by
    rcases ext_mem hy with h|h
    ·omega
    ·exact j5 y h,fun x hx=>by
    rcases zdf hx with h|h
    ·rw[h];exact hE3 e (zA2 he)
    ·exact j7 x h,j6⟩ (by simp only;omega)
   have hget:=zac e.2.2 ks2 0
   clear ihj hal
   by_cases hknown:e.2.2∈ks2
   ·rw[z7j,zAz hknown]at ihj'
    rw[zAz hknown,Nat.zero_add]at hget
    have hget1:(z5t (z3j 0 ks2) e.2.2).getD (.lit (.int .i64 0))=z2i (z3o e.2.2 ks2:Nat):=by rw[hget];rfl
    have hget2:(z5t (z3j 0 ks2) e.2.2).isSome=true:=by rw[hget];rfl
    generalize z3o e.2.2 ks2=qv at *
    rcases zqy arcs with rfl|⟨m,y,rfl⟩
    ·rw[ext_nil]at ihj'
     repeat' first|(apply z0r;refine z09 (z2a (et:=3) (a:=e.2.2) (q:=z3j 0 ks2) (z0:=Value.int .i64 0) (py:=xP e.2.2) (by kernel_rfl) xG (z2d (by kernel_rfl)) rfl rfl rfl xW rfl hget1 hget2 (by decide)) ?_)|(apply z01;refine z07 (z11 (ys:=es.map xE) rfl (idx he)) rfl rfl ?_)|(apply z14;first|refine z07 (z18 rfl) rfl rfl ?_| refine z4x (g:=z3g) rfl rfl (e.1,e.2.1,((qv:Nat):Int)) rfl rfl rfl rfl rfl rfl rfl (by decide) (by simp) ?_)|refine z04 ?_|refine fk (fun _=>?_) fun _=>?_
     all_goals try (exfalso;first|omega|(simp at *;done))
     all_goals skip
     all_goals refine z1d 103 1003 ?_
     all_goals exact z00 ihj' rfl rfl
    ·have hy:=j5 y (by simp)
     have hal:((m++[y]).map z3g).length=m.length+1:=by simp
     have hal2:(m++[y]).length=m.length+1:=by simp
     have hix:(m++[y])[(((((m++[y]).length:Nat):Int)-1)).toNat]? =some y:=by
      rw[hal2,show(((m.length+1:Nat):Int)-1).toNat=m.length by omega];simp
     have hse:(m++[y]).set (((((m++[y]).length:Nat):Int)-1)).toNat ((y.1,e.2.1,y.2.2):Arc)=m++[(y.1,e.2.1,y.2.2)]:=by
      rw[hal2,show(((m.length+1:Nat):Int)-1).toNat=m.length by omega];simp
     rw[z47]at ihj'
     by_cases hj:y.2.1+1=e.1∧y.2.2=(qv:Nat)
     ·have hyq:(y.1,e.2.1,((qv:Nat):Int))=((y.1,e.2.1,y.2.2):Arc):=by rw[hj.2]
      rw[zAz hj,hyq]at ihj'
      repeat' first|(apply z0r;refine z09 (z2a (et:=3) (a:=e.2.2) (q:=z3j 0 ks2) (z0:=Value.int .i64 0) (py:=xP e.2.2) (by kernel_rfl) xG (z2d (by kernel_rfl)) rfl rfl rfl xW rfl hget1 hget2 (by decide)) ?_)|(apply z0b;first|refine z0c (z0e (u:=z1b y.2.1) hix) rfl rfl ?_| refine z0c (z0e (u:=z2i y.2.2) hix) rfl rfl ?_)|(apply z01;first|refine z07 (z11 (ys:=es.map xE) rfl (idx he)) rfl rfl ?_| refine z07 (z3d rfl) rfl rfl ?_)|(apply z02;refine z0c (z3d rfl) rfl rfl ?_)|(apply z19;refine z0c (z16 (zc9 (by omega) (by omega))) rfl rfl ?_)|(apply z14;first|refine z07 (z18 rfl) rfl rfl ?_| refine z2w (g:=z3g) (e.1,e.2.1,((qv:Nat):Int)) rfl ?_)|(apply z0x;refine z3w ((y.1,e.2.1,y.2.2):Arc) hix hse ?_)|refine z04 ?_|refine fk (fun _=>?_) (fun _=>?_)|(refine z13 (fun hg=>?_) (fun hg=>?_)<;> simp only[hg] <;> (try simp only[zA3,zA5,zA6,zA8]at hg))
      all_goals try omega
      all_goals skip
      all_goals exact z00 ihj' rfl rfl
     ·rw[zAy hj]at ihj'
      repeat' first|(apply z0r;refine z09 (z2a (et:=3) (a:=e.2.2) (q:=z3j 0 ks2) (z0:=Value.int .i64 0) (py:=xP e.2.2) (by kernel_rfl) xG (z2d (by kernel_rfl)) rfl rfl rfl xW rfl hget1 hget2 (by decide)) ?_)|(apply z0b;first|refine z0c (z0e (u:=z1b y.2.1) hix) rfl rfl ?_| refine z0c (z0e (u:=z2i y.2.2) hix) rfl rfl ?_)|(apply z01;first|refine z07 (z11 (ys:=es.map xE) rfl (idx he)) rfl rfl ?_| refine z07 (z3d rfl) rfl rfl ?_)|(apply z02;refine z0c (z3d rfl) rfl rfl ?_)|(apply z19;refine z0c (z16 (zc9 (by omega) (by omega))) rfl rfl ?_)|(apply z14;first|refine z07 (z18 rfl) rfl rfl ?_| refine z2w (g:=z3g) (e.1,e.2.1,((qv:Nat):Int)) rfl ?_)|(apply z0x;refine z3w ((y.1,e.2.1,y.2.2):Arc) hix hse ?_)|refine z04 ?_|refine fk (fun _=>?_) (fun _=>?_)|(refine z13 (fun hg=>?_) (fun hg=>?_)<;> simp only[hg] <;> (try simp only[zA3,zA5,zA6,zA8]at hg))
      all_goals try omega
      all_goals skip
      all_goals refine z1d 103 1003 ?_
      all_goals exact z00 ihj' rfl rfl
   ·rw[z7j,zAy hknown,z48 hknown]at ihj'
    rw[z48 hknown]at hln
    rw[zAy hknown]at hget
    have hget1:(z5t (z3j 0 ks2) e.2.2).getD (.lit (.int .i64 0))=z2i 0:=by rw[hget];rfl
    have hget2:(z5t (z3j 0 ks2) e.2.2).isSome=false:=by rw[hget];rfl
    have hput:=zcx hknown
    dsimp only[xM]at ihj'
    rw[←hput]at ihj'
    rcases zqy arcs with rfl|⟨m,y,rfl⟩
    ·rw[ext_nil]at ihj'
     repeat' first|(apply z0r;refine z09 (z2a (et:=3) (a:=e.2.2) (q:=z3j 0 ks2) (z0:=Value.int .i64 0) (py:=xP e.2.2) (by kernel_rfl) xG (z2d (by kernel_rfl)) rfl rfl rfl xW rfl hget1 hget2 (by decide)) ?_)|(apply z01;refine z07 (z11 (ys:=es.map xE) rfl (idx he)) rfl rfl ?_)|(apply z14;first|refine z07 (z18 rfl) rfl rfl ?_| refine z2w (g:=xC) e.2.2 rfl ?_| refine z4x (g:=z3g) rfl rfl (e.1,e.2.1,((ks2.length:Nat):Int)) rfl rfl rfl rfl rfl rfl rfl (by decide) (by simp) ?_)|refine z04 ?_|refine fk (fun _=>?_) (fun _=>?_)|(apply z0r;refine z5n (et:=3) (a:=e.2.2) (v:=z2i (ks2.length:Nat)) (py:=xP e.2.2) (q:=z3j 0 ks2) (by kernel_rfl) xG rfl rfl xW rfl rfl rfl ?_)
     all_goals try (exfalso;first|omega|(simp at *;done))
     all_goals refine z1d 61 1000 ?_
     all_goals refine z1d 103 1003 ?_
     all_goals exact z00 ihj' rfl rfl
    ·have hy:=j5 y (by simp)
     have hal:((m++[y]).map z3g).length=m.length+1:=by simp
     have hal2:(m++[y]).length=m.length+1:=by simp
     have hix:(m++[y])[(((((m++[y]).length:Nat):Int)-1)).toNat]? =some y:=by
      rw[hal2,show(((m.length+1:Nat):Int)-1).toNat=m.length by omega];simp
     have hse:(m++[y]).set (((((m++[y]).length:Nat):Int)-1)).toNat ((y.1,e.2.1,y.2.2):Arc)=m++[(y.1,e.2.1,y.2.2)]:=by
      rw[hal2,show(((m.length+1:Nat):Int)-1).toNat=m.length by omega];simp
     rw[z47]at ihj'
     by_cases hj:y.2.1+1=e.1∧y.2.2=(ks2.length:Nat)
     ·have hyq:(y.1,e.2.1,((ks2.length:Nat):Int))=((y.1,e.2.1,y.2.2):Arc):=by rw[hj.2]
      rw[zAz hj,hyq]at ihj'
      repeat' first|(apply z0r;refine z09 (z2a (et:=3) (a:=e.2.2) (q:=z3j 0 ks2) (z0:=Value.int .i64 0) (py:=xP e.2.2) (by kernel_rfl) xG (z2d (by kernel_rfl)) rfl rfl rfl xW rfl hget1 hget2 (by decide)) ?_)|(apply z0b;first|refine z0c (z0e (u:=z1b y.2.1) hix) rfl rfl ?_| refine z0c (z0e (u:=z2i y.2.2) hix) rfl rfl ?_)|(apply z01;first|refine z07 (z11 (ys:=es.map xE) rfl (idx he)) rfl rfl ?_| refine z07 (z3d rfl) rfl rfl ?_)|(apply z02;refine z0c (z3d rfl) rfl rfl ?_)|(apply z19;refine z0c (z16 (zc9 (by omega) (by omega))) rfl rfl ?_)|(apply z14;first|refine z07 (z18 rfl) rfl rfl ?_| refine z2w (g:=xC) e.2.2 rfl ?_| refine z2w (g:=z3g) (e.1,e.2.1,((ks2.length:Nat):Int)) rfl ?_)|(apply z0x;refine z3w ((y.1,e.2.1,y.2.2):Arc) hix hse ?_)|refine z04 ?_|refine fk (fun _=>?_) (fun _=>?_)|(apply z0r;refine z5n (et:=3) (a:=e.2.2) (v:=z2i (ks2.length:Nat)) (py:=xP e.2.2) (q:=z3j 0 ks2) (by kernel_rfl) xG rfl rfl xW rfl rfl rfl ?_)|(refine z13 (fun hg=>?_) (fun hg=>?_)<;> simp only[hg] <;> (try simp only[zA3,zA5,zA6,zA8]at hg))
      all_goals try omega
      all_goals refine z1d 61 1000 ?_
      all_goals exact z00 ihj' rfl rfl
     ·rw[zAy hj]at ihj'
      repeat' first|(apply z0r;refine z09 (z2a (et:=3) (a:=e.2.2) (q:=z3j 0 ks2) (z0:=Value.int .i64 0) (py:=xP e.2.2) (by kernel_rfl) xG (z2d (by kernel_rfl)) rfl rfl rfl xW rfl hget1 hget2 (by decide)) ?_)|(apply z0b;first|refine z0c (z0e (u:=z1b y.2.1) hix) rfl rfl ?_| refine z0c (z0e (u:=z2i y.2.2) hix) rfl rfl ?_)|(apply z01;first|refine z07 (z11 (ys:=es.map xE) rfl (idx he)) rfl rfl ?_| refine z07 (z3d rfl) rfl rfl ?_)|(apply z02;refine z0c (z3d rfl) rfl rfl ?_)|(apply z19;refine z0c (z16 (zc9 (by omega) (by omega))) rfl rfl ?_)|(apply z14;first|refine z07 (z18 rfl) rfl rfl ?_| refine z2w (g:=xC) e.2.2 rfl ?_| refine z2w (g:=z3g) (e.1,e.2.1,((ks2.length:Nat):Int)) rfl ?_)|(apply z0x;refine z3w ((y.1,e.2.1,y.2.2):Arc) hix hse ?_)|refine z04 ?_|refine fk (fun _=>?_) (fun _=>?_)|(apply z0r;refine z5n (et:=3) (a:=e.2.2) (v:=z2i (ks2.length:Nat)) (py:=xP e.2.2) (q:=z3j 0 ks2) (by kernel_rfl) xG rfl rfl xW rfl rfl rfl ?_)|(refine z13 (fun hg=>?_) (fun hg=>?_)<;> simp only[hg] <;> (try simp only[zA3,zA5,zA6,zA8]at hg))
      all_goals try omega
      all_goals refine z1d 61 1000 ?_
      all_goals refine z1d 103 1003 ?_
      all_goals exact z00 ihj' rfl rfl
  ·obtain rfl:j=es.length:=by omega
   rw[zAs,List.foldl_nil]at j6
   rw[←j6]at i6
   simp only at i6
   have hi2:=(zA1.1 j4).1
   refine z0o 1003 rfl ?_
   by_cases hlim:lim.toNat<ks2.length
   ·rw[zAz hlim]at i6
    rw[←i6]
    repeat' first|(apply z14;refine z07 (z18 rfl) rfl rfl ?_)|refine z04 ?_|refine fk (fun _=>?_) fun _=>?_
    all_goals try omega
    all_goals exact z03 xN _ (z0h rfl rfl rfl rfl rfl rfl rfl) ⟨rfl,rfl⟩
   ·rw[zAy hlim]at i6
    have ih':=ih (i+1,ks2,⟨F++[fb],A++[arcs]⟩) ⟨by simp only;omega,by simp only;omega,by simp only;omega,by simp[i4],by simp[i5],j7,by rw[←i6];simp only;rw[show lim.toNat+1-(i+1)=n by omega]⟩ (by simp only;omega)
    simp only at ih'
    repeat' first|(apply z0b;refine z0c (zaj j4 rfl rfl) rfl rfl ?_)|(apply z02;refine z0c (z1a rfl (by simp only[zA4];omega)) rfl rfl ?_)|(apply z14;first|refine z07 (z18 rfl) rfl rfl ?_| refine z2w (g:=z7m) arcs rfl ?_)|(apply z4i;refine z4y (g:=boc) (by first|exact rfl|exact⟨_,rfl,rfl,rfl⟩) rfl rfl fb rfl rfl rfl rfl rfl rfl rfl (by decide) (by omega) ?_)|(apply z0l;refine y53 (first:=[]) (cap:=xA) (ps:=[xP k]) hff (by first|exact rfl|exact⟨_,rfl,rfl,rfl⟩) rfl rfl (hb _ _ _) (by decide) ?_)|(apply z10;refine zgf (by first|exact rfl|exact⟨_,rfl,rfl,rfl⟩) rfl rfl rfl rfl rfl ?_)|refine z04 ?_|refine fk (fun _=>?_) fun _=>?_
    all_goals try omega
    all_goals refine z1d 119 1001 ?_
    all_goals refine z1d 125 1002 ?_
    all_goals exact z00 ih' rfl rfl
 ·obtain rfl:i=ks.length:=by omega
  obtain⟨n,hn⟩:∃n,lim.toNat+1-ks.length=n+1:=⟨lim.toNat-ks.length,by omega⟩
  rw[hn,exL,zAv (zAj _)]at i6
  simp only at i6
  rw[←i6]
  refine z0o 1001 rfl ?_
  refine z0o 1002 rfl ?_
  repeat' first|(apply z14;refine z07 (z18 rfl) rfl rfl ?_)|refine z04 ?_|refine fk (fun _=>?_) fun _=>?_
  all_goals try omega
  all_goals exact z03 xN _ (z0h rfl rfl rfl rfl rfl rfl rfl) ⟨rfl,rfl⟩):p:=h
theorem zD2{p:Prop} (h:p:=by
 clear hD4
 rintro⟨r,d5⟩ ⟨r1,r2,r3,r4⟩ ihr
 simp only at r1 r2 r3 r4 ihr⊢
 by_cases hr:r<b∧d5[r]!<d5[r-1]!
 ·rw[zyp hr.1 hr.2]at r4
  have g0:d5.toList[((r:Nat):Int).toNat]? =some d5[r]!:=z2e (by omega) (by omega)
  have gc:d5.toList[(((r:Nat):Int)-1).toNat]? =some d5[r-1]!:=z2e (by omega) (by omega)
  have s1:d5.toList.set ((r:Nat):Int).toNat d5[r-1]! =(d5.setIfInBounds r d5[r-1]!).toList:=z2p (by omega) _
  have g1:(d5.setIfInBounds r d5[r-1]!).toList[(((r:Nat):Int)-1).toNat]? =some (d5.setIfInBounds r d5[r-1]!)[r-1]!:=z2e (by omega) (by simp;omega)
  have s2:(d5.setIfInBounds r d5[r-1]!).toList.set (((r:Nat):Int)-1).toNat d5[r]! =(Go.Sort.swp d5 r (r-1)).toList:=z2p (by omega) _
  have z1:(d5.setIfInBounds r d5[r-1]!).size=d5.size:=by simp
  have z2:(Go.Sort.swp d5 r (r-1)).size=d5.size:=Go.Sort.swp_size _ _ _
  have hc:=z1c d5[r]! d5[r-1]!
  rw[zAi hr.2]at hc
  have ihr':=ihr (r+1,Go.Sort.swp d5 r (r-1)) ⟨by simp only;omega,by simp only;omega,by simp only;omega,r4⟩ (by simp only;omega)
  simp only at ihr'
  obtain⟨hr1,hr2⟩:=hr
  generalize Go.Sort.swp d5 r (r-1)=d6 at *
  generalize (d5.setIfInBounds r d5[r-1]!)=d7 at *
  clear ihr ih' r4
  repeat' first|(apply z0b;first|refine z0c (z0e (u:=z1b d5[r]!) g0) rfl rfl ?_| refine z0c (z0e (u:=z1b d5[r-1]!) gc) rfl rfl ?_)|(apply z02;refine z0c (z1a rfl (by simp only[zA4,zAe];omega)) rfl rfl ?_)|(apply z0t;refine z07 (z16 z1e) rfl rfl ?_)|(apply z19;refine z0c (z1i z1e) rfl rfl ?_)|(apply z0l;refine z3t hc ?_)|(apply z10;first|refine z0j d5[r-1]! (by first|exact rfl|exact⟨_,rfl,rfl,rfl⟩) rfl rfl rfl rfl g0 rfl rfl rfl s1 ?_|refine z0j d5[r]! (by first|exact rfl|exact⟨_,rfl,rfl,rfl⟩) rfl rfl rfl rfl g1 rfl rfl rfl s2 ?_)|refine z04 ?_|refine fk (fun _=>?_) fun _=>?_
  all_goals try omega
  all_goals exact z00 ihr' rfl rfl
 ·rw[zd7 hr]at r4
  subst r4
  clear ihr
  by_cases hrb:r<b
  ·skip
   have g0:d5.toList[((r:Nat):Int).toNat]? =some d5[r]!:=z2e (by omega) (by omega)
   have gc:d5.toList[(((r:Nat):Int)-1).toNat]? =some d5[r-1]!:=z2e (by omega) (by omega)
   have hc:=z1c d5[r]! d5[r-1]!
   rw[zAo fun g=>hr ⟨hrb,g⟩]at hc
   repeat' first|(apply z0b;first|refine z0c (z0e (u:=z1b d5[r]!) g0) rfl rfl ?_| refine z0c (z0e (u:=z1b d5[r-1]!) gc) rfl rfl ?_)|(apply z02;refine z0c (z1a rfl (by simp only[zA4,zAe];omega)) rfl rfl ?_)|(apply z0t;refine z07 (z16 z1e) rfl rfl ?_)|(apply z19;refine z0c (z1i z1e) rfl rfl ?_)|(apply z0l;refine z3t hc ?_)|refine z04 ?_|refine fk (fun _=>?_) fun _=>?_
   all_goals try omega
   all_goals exact z00 ih' rfl rfl
  ·have hc:=z1c 0 0
   repeat' first|refine z04 ?_|refine fk (fun _=>?_) fun _=>?_
   all_goals try omega
   all_goals exact z00 ih' rfl rfl):p:=h
theorem zD3{p:Prop} (h:p:=by
 refine z0f ?_
 refine z00 (z0s (fun r:Nat=>⟨168,[(0,.ref (0,1000)),(1,I .i64 (a:Nat)),(10,I .i64 (q:Nat)),(11,I .i64 (r:Nat)),(101000,.al (0,1000) (1,1000))],[(1000,rwA d')],upd H (0,1000) .gone⟩) (fun r=>r≤j∧a≤r∧Go.Sort.scanDown (pR d' a) d' q r=jr) (fun r=>r) ?_ j ⟨zAj _,i4,hjr⟩) rfl rfl
 clear hjr
 clear gq
 rintro r ⟨r1,r3,r2⟩ ihr
 by_cases hr:q≤r∧¬d'[r]!<d'[a]!
 ·have gq:d'.toList[((r:Nat):Int).toNat]? =some d'[r]!:=z2e (by omega) (by omega)
  have hc:=z1c d'[r]! d'[a]!
  rw[zAo hr.2]at hc
  rw[zpz (by omega) hr.1 (by simp[Go.Sort.ltInt,hr.2])]at r2
  have ih':=ihr (r-1) ⟨by omega,by omega,r2⟩ (by omega)
  obtain⟨hq1,hq2⟩:=hr
  clear ihr
  repeat' first|(apply z0b;first|refine z0c (z0e (u:=z1b d'[r]!) gq) rfl rfl ?_| refine z0c (z0e (u:=z1b d'[a]!) ga) rfl rfl ?_)|(apply z02;refine z0c (z1a rfl (by simp only[zA4,zAe];omega)) rfl rfl ?_)|(apply z0t;refine z07 (z1i z1e) rfl rfl ?_)|(apply z0l;refine z3t hc ?_)|refine z04 ?_|refine fk (fun _=>?_) (fun _=>?_)|(refine z13 (fun hg=>?_) (fun hg=>?_)<;> simp only[hg] <;> (try simp only[zA3,zA5,zA6,zA8]at hg))
  all_goals try omega
  all_goals rw[show((r:Nat):Int)-1=(r-1:Nat) by omega]
  all_goals exact z00 ih' rfl rfl
 clear ihr
 rw[zbo fun g=>hr ⟨g.1,by have:=g.2;simpa[Go.Sort.ltInt]using this⟩]at r2
 subst r2
 have hex2:q≤r→d'[r]!<d'[a]!:=fun g=>Decidable.byContradiction fun h=>hr ⟨g,h⟩
 by_cases hqr:r<q
 ·rw[zAz hqr]at i6
  subst i6
  clear ih
  have g0:d'.toList[((r:Nat):Int).toNat]? =some d'[r]!:=z2e (by omega) (by omega)
  have gc:d'.toList[((a:Nat):Int).toNat]? =some d'[a]!:=z2e (by omega) (by omega)
  have s1:d'.toList.set ((r:Nat):Int).toNat d'[a]! =(d'.setIfInBounds r d'[a]!).toList:=z2p (by omega) _
  have g1:(d'.setIfInBounds r d'[a]!).toList[((a:Nat):Int).toNat]? =some (d'.setIfInBounds r d'[a]!)[a]!:=z2e (by omega) (by simp;omega)
  have s2:(d'.setIfInBounds r d'[a]!).toList.set ((a:Nat):Int).toNat d'[r]! =(Go.Sort.swp d' r a).toList:=z2p (by omega) _
  have z1:(d'.setIfInBounds r d'[a]!).size=d'.size:=by simp
  have z2:(Go.Sort.swp d' r a).size=d'.size:=Go.Sort.swp_size _ _ _
  have hc:=z1c 0 0
  skip
  generalize Go.Sort.swp d' r a=d2 at *
  generalize (d'.setIfInBounds r d'[a]!)=d1 at *
  repeat' first|(apply z0b;first|refine z0c (z0e (u:=z1b d'[a]!) ga) rfl rfl ?_| refine z0c (z0e (u:=z1b d'[r]!) g0) rfl rfl ?_)|(apply z02;refine z0c (z1a rfl (by simp only[zA4,zAe];omega)) rfl rfl ?_)|(apply z10;first|refine z0j d'[a]! (by first|exact rfl|exact⟨_,rfl,rfl,rfl⟩) rfl rfl rfl rfl g0 rfl rfl rfl s1 ?_|refine z0j d'[r]! (by first|exact rfl|exact⟨_,rfl,rfl,rfl⟩) rfl rfl rfl rfl g1 rfl rfl rfl s2 ?_)|refine z04 ?_|refine fk (fun _=>?_) (fun _=>?_)|(refine z13 (fun hg=>?_) (fun hg=>?_)<;> simp only[hg] <;> (try simp only[zA3,zA5,zA6,zA8]at hg))
  all_goals try omega
  all_goals refine z3a (raw:=rwA d2) 1000 0 1000 ?_
  all_goals refine z03 func177 _ z1z ⟨rfl,?_⟩
  all_goals simp[z6j,z1m]
 ·rw[zAy hqr]at i6
  have g0:d'.toList[((q:Nat):Int).toNat]? =some d'[q]!:=z2e (by omega) (by omega)
  have gc:d'.toList[((r:Nat):Int).toNat]? =some d'[r]!:=z2e (by omega) (by omega)
  have s1:d'.toList.set ((q:Nat):Int).toNat d'[r]! =(d'.setIfInBounds q d'[r]!).toList:=z2p (by omega) _
  have g1:(d'.setIfInBounds q d'[r]!).toList[((r:Nat):Int).toNat]? =some (d'.setIfInBounds q d'[r]!)[r]!:=z2e (by omega) (by simp;omega)
  have s2:(d'.setIfInBounds q d'[r]!).toList.set ((r:Nat):Int).toNat d'[q]! =(Go.Sort.swp d' q r).toList:=z2p (by omega) _
  have z1:(d'.setIfInBounds q d'[r]!).size=d'.size:=by simp
  have z2:(Go.Sort.swp d' q r).size=d'.size:=Go.Sort.swp_size _ _ _
  have hc:=z1c d'[r]! d'[a]!
  rw[zAi (hex2 (by omega))]at hc
  have ih':=ih (q+1,r-1,Go.Sort.swp d' q r) ⟨by simp only;omega,by simp only;omega,by simp only;omega,by simp only;omega,by simp only;omega,i6⟩ (by simp only;omega)
  simp only at ih'
  generalize Go.Sort.swp d' q r=d2 at *
  generalize (d'.setIfInBounds q d'[r]!)=d1 at *
  clear ih i6
  repeat' first|(apply z0b;first|refine z0c (z0e (u:=z1b d'[a]!) ga) rfl rfl ?_| refine z0c (z0e (u:=z1b d'[q]!) g0) rfl rfl ?_| refine z0c (z0e (u:=z1b d'[r]!) gc) rfl rfl ?_)|(apply z02;refine z0c (z1a rfl (by simp only[zA4,zAe];omega)) rfl rfl ?_)|(apply z0t;first|refine z07 (z1i z1e) rfl rfl ?_| refine z07 (z16 z1e) rfl rfl ?_)|(apply z0l;refine z3t hc ?_)|(apply z10;first|refine z0j d'[r]! (by first|exact rfl|exact⟨_,rfl,rfl,rfl⟩) rfl rfl rfl rfl g0 rfl rfl rfl s1 ?_|refine z0j d'[q]! (by first|exact rfl|exact⟨_,rfl,rfl,rfl⟩) rfl rfl rfl rfl g1 rfl rfl rfl s2 ?_)|refine z04 ?_|refine fk (fun _=>?_) (fun _=>?_)|(refine z13 (fun hg=>?_) (fun hg=>?_)<;> simp only[hg] <;> (try simp only[zA3,zA5,zA6,zA8]at hg))
  all_goals try omega
  all_goals rw[show((r:Nat):Int)-1=(r-1:Nat) by omega]
  all_goals exact z00 ih' rfl rfl):p:=h
theorem zD4{p:Prop} (h:p:=by
 refine z0f ?_
 refine z00 (z0s (fun r:Nat=>⟨84,[(0,.ref (0,1000)),(1,I .i64 (a:Nat)),(9,I .i64 (q:Nat)),(10,I .i64 (r:Nat)),(101000,.al (0,1000) (1,1000))],[(1000,rwA d')],upd H (0,1000) .gone⟩) (fun r=>r≤j∧a≤r∧Go.Sort.scanDown (eR d' a) d' q r=jr) (fun r=>r) ?_ j ⟨zAj _,i4,hjr⟩) rfl rfl
 clear hjr
 clear gq
 rintro r ⟨r1,r3,r2⟩ ihr
 by_cases hr:q≤r∧d'[a]!<d'[r]!
 ·have gq:d'.toList[((r:Nat):Int).toNat]? =some d'[r]!:=z2e (by omega) (by omega)
  have hc:=z1c d'[a]! d'[r]!
  rw[zAi hr.2]at hc
  rw[zpz (by omega) hr.1 (by simp[Go.Sort.ltInt,hr.2])]at r2
  have ih':=ihr (r-1) ⟨by omega,by omega,r2⟩ (by omega)
  obtain⟨hq1,hq2⟩:=hr
  clear ih ihr
  repeat' first|(apply z0b;first|refine z0c (z0e (u:=z1b d'[r]!) gq) rfl rfl ?_| refine z0c (z0e (u:=z1b d'[a]!) ga) rfl rfl ?_)|(apply z02;refine z0c (z1a rfl (by simp only[zA4,zAe];omega)) rfl rfl ?_)|(apply z0t;refine z07 (z1i z1e) rfl rfl ?_)|(apply z0l;refine z3t hc ?_)|refine z04 ?_|refine fk (fun _=>?_) (fun _=>?_)|(refine z13 (fun hg=>?_) (fun hg=>?_)<;> simp only[hg] <;> (try simp only[zA3,zA5,zA6,zA8]at hg))
  all_goals try omega
  all_goals rw[show((r:Nat):Int)-1=(r-1:Nat) by omega]
  all_goals exact z00 ih' rfl rfl
 clear ihr
 rw[zbo fun g=>hr ⟨g.1,by have:=g.2;simpa[Go.Sort.ltInt]using this⟩]at r2
 subst r2
 have hex2:q≤r→¬d'[a]!<d'[r]!:=fun g h=>hr ⟨g,h⟩
 by_cases hqr:r<q
 ·rw[zAz hqr]at i6
  subst i6
  have hc:=z1c 0 0
  clear ih
  repeat' first|refine z04 ?_|refine fk (fun _=>?_) (fun _=>?_)|(refine z13 (fun hg=>?_) (fun hg=>?_)<;> simp only[hg] <;> (try simp only[zA3,zA5,zA6,zA8]at hg))
  all_goals try omega
  all_goals refine z3a (raw:=rwA d') 1000 0 1000 ?_
  all_goals refine z03 func176 _ z1h ⟨rfl,?_⟩
  all_goals simp[z6j,z1m]
 ·rw[zAy hqr]at i6
  have g0:d'.toList[((q:Nat):Int).toNat]? =some d'[q]!:=z2e (by omega) (by omega)
  have gc:d'.toList[((r:Nat):Int).toNat]? =some d'[r]!:=z2e (by omega) (by omega)
  have s1:d'.toList.set ((q:Nat):Int).toNat d'[r]! =(d'.setIfInBounds q d'[r]!).toList:=z2p (by omega) _
  have g1:(d'.setIfInBounds q d'[r]!).toList[((r:Nat):Int).toNat]? =some (d'.setIfInBounds q d'[r]!)[r]!:=z2e (by omega) (by simp;omega)
  have s2:(d'.setIfInBounds q d'[r]!).toList.set ((r:Nat):Int).toNat d'[q]! =(Go.Sort.swp d' q r).toList:=z2p (by omega) _
  have z1:(d'.setIfInBounds q d'[r]!).size=d'.size:=by simp
  have z2:(Go.Sort.swp d' q r).size=d'.size:=Go.Sort.swp_size _ _ _
  have ih':=ih (q+1,r-1,Go.Sort.swp d' q r) ⟨by simp only;omega,by simp only;omega,by simp only;omega,by simp only;omega,by simp only;omega,i6⟩ (by simp only;omega)
  simp only at ih'
  have hc:=z1c d'[a]! d'[r]!
  rw[zAo (hex2 (by omega))]at hc
  generalize Go.Sort.swp d' q r=d2 at *
  generalize (d'.setIfInBounds q d'[r]!)=d1 at *
  clear ih i6
  repeat' first|(apply z0b;first|refine z0c (z0e (u:=z1b d'[a]!) ga) rfl rfl ?_| refine z0c (z0e (u:=z1b d'[q]!) g0) rfl rfl ?_| refine z0c (z0e (u:=z1b d'[r]!) gc) rfl rfl ?_)|(apply z02;refine z0c (z1a rfl (by simp only[zA4,zAe];omega)) rfl rfl ?_)|(apply z0t;first|refine z07 (z1i z1e) rfl rfl ?_| refine z07 (z16 z1e) rfl rfl ?_)|(apply z0l;refine z3t hc ?_)|(apply z10;first|refine z0j d'[r]! (by first|exact rfl|exact⟨_,rfl,rfl,rfl⟩) rfl rfl rfl rfl g0 rfl rfl rfl s1 ?_|refine z0j d'[q]! (by first|exact rfl|exact⟨_,rfl,rfl,rfl⟩) rfl rfl rfl rfl g1 rfl rfl rfl s2 ?_)|refine z04 ?_|refine fk (fun _=>?_) (fun _=>?_)|(refine z13 (fun hg=>?_) (fun hg=>?_)<;> simp only[hg] <;> (try simp only[zA3,zA5,zA6,zA8]at hg))
  all_goals try omega
  all_goals rw[show((r:Nat):Int)-1=(r-1:Nat) by omega]
  all_goals exact z00 ih' rfl rfl):p:=h
theorem zD5{p:Prop} (h:p:=by
 have hmm:((min e l.length:Nat):Int)=min (e:Int) (l.length:Int):=by omega
 have hse:=hs2 (e / 2) (min e l.length-e / 2) (by omega) i3 (by omega)
 rw[show((min e l.length-e / 2:Nat):Int)=min (e:Int) (l.length:Int)-((e / 2:Nat):Int) by omega]at hse
 rw[show((z5u l x:Nat):Int)=((e / 2:Nat):Int)+((z5u l x-e / 2:Nat):Int) by omega]
 have hge2:z5u l x-e / 2≤4096:=by omega
 clear ih hs2
 generalize z5u l x-e / 2=gg at *
 rw[←hdiv]at hse⊢
 have hbk:∀(n:Nat) (tm:List (Nat × PV)) (hp:Hp),Ab.look hp 2=some (.box [.d (inD l)])→Ab.look hp 6=some (.box [I .i64 ((e:Int) / 2)])→Ab.look hp 3=some (.box [I .i64 x])→BkE ⟨n,tm,hp,H⟩ [((0,2),.box [.d (inD l)]),((0,6),.box [I .i64 ((e:Int) / 2)]),((0,3),.box [I .i64 x])]:=fun n tm hp h2 h6 h3=>by simp[BkE,z3h,push,h2,h6,h3]
 by_cases hc2:e≤l.length
 ·obtain⟨k2,hk2⟩:∃r,l[e-1]? =some r:=⟨_,zA0 (by omega)⟩
  have hk3:l[(((e:Nat):Int)-1).toNat]? =some k2:=by rw[show(((e:Nat):Int)-1).toNat=e-1 by omega];exact hk2
  have hx2:¬k2<x:=by
   first
   | (rw[hk]at hk2;rw[←Option.some.inj hk2];exact hx)
   | omega
  repeat' first|(apply zle;refine zfp (by first|exact rfl|exact⟨_,rfl,rfl,rfl⟩) rfl rfl (by decide) ?_)|(apply z02;refine z0c (z11 (ys:=l.map ic) rfl (zam hk3)) rfl rfl ?_)|(apply z0t;refine z07 (z8p (by omega) (by decide) z1e) rfl rfl ?_)|(apply z0l;refine za0 hse (by first|exact rfl|exact⟨_,rfl,rfl,rfl⟩) rfl (hbk _ _ _ rfl rfl rfl) (by decide) ?_)|(apply z1s;refine z09 z4t ?_)|refine z04 ?_|refine fk (fun _=>?_) (fun _=>?_)|(refine z13 (fun hg=>?_) (fun hg=>?_)<;> simp only[hg] <;> (try simp only[zA3,zA5,zA6,zA8]at hg))
  all_goals try omega
  all_goals exact z03 func103 _ z1h ⟨rfl,rfl⟩
 ·repeat' (first|(apply zle;refine zfp (by first|exact rfl|exact⟨_,rfl,rfl,rfl⟩) rfl rfl (by decide) ?_)|(apply z0t;refine z07 (z8p (by omega) (by decide) z1e) rfl rfl ?_)|(apply z0l;refine za0 hse (by first|exact rfl|exact⟨_,rfl,rfl,rfl⟩) rfl (hbk _ _ _ rfl rfl rfl) (by decide) ?_)|(apply z1s;refine z09 z4t ?_)|refine z04 ?_|(refine z13 (fun hg=>?_) (fun hg=>?_)<;> simp only[hg] <;> (try simp only[zA3,zA5,zA6,zA8]at hg)))
  all_goals try omega
  all_goals exact z03 func103 _ z1h ⟨rfl,rfl⟩):p:=h
theorem zD6{p:Prop} (h:p:=by
 intro k k1 ihk
 by_cases hk:k<L.length
 ·obtain⟨u,hu⟩:∃u,L[k]? =some u:=⟨_,zA0 hk⟩
  have hT:((L.take k).map okf).length=k:=by rw[zA4,zAm];omega
  have hall:((L.take k).map okf++L.drop k).length=L.length:=by rw[zAa,hT,List.length_drop];omega
  have hix:((L.take k).map okf++L.drop k)[((k:Nat):Int).toNat]? =some u:=by
   rw[zA9,zAg (by omega),hT,Nat.sub_self,List.getElem?_drop,Nat.add_zero];exact hu
  have hse:((L.take k).map okf++L.drop k).set ((k:Nat):Int).toNat (okf u)=(L.take (k+1)).map okf++L.drop (k+1):=by
   rw[zA9,List.set_append_right _ _ (by omega),hT,Nat.sub_self,drop_cons hu,List.set_cons_zero,z5i hu,List.map_append,zAl];rfl
  have hmap:(((L.take k).map okf++L.drop k).map uqc).length=L.length:=by rw[zA4];exact hall
  have ihk':=ihk (k+1) (by omega) (by omega)
  obtain⟨u1,u2,u3,u4⟩:=u
  by_cases hbad:u1=65533
  ·have hok:okf (u1,u2,u3,u4)=(u1,u2,u3,decide (u3=3)):=by simp[okf,hbad]
   rw[hok]at hse
   repeat' first|(apply z1f;first|refine z07 (z0e (u:=z1b u1) hix) rfl rfl ?_| refine z07 (z0e (u:=z2i u3) hix) rfl rfl ?_)|(apply z01;refine z07 (z3d rfl) rfl rfl ?_)|(apply z0x;refine z3w ((u1,u2,u3,decide (u3=3)):Uq) hix hse ?_)|refine z04 ?_|refine fk (fun _=>?_) fun _=>?_
   all_goals try omega
   all_goals exact z00 ihk' rfl rfl
  ·have hok:okf (u1,u2,u3,u4)=(u1,u2,u3,true):=by simp[okf,hbad]
   rw[hok]at hse
   repeat' first|(apply z1f;first|refine z07 (z0e (u:=z1b u1) hix) rfl rfl ?_| refine z07 (z0e (u:=z2i u3) hix) rfl rfl ?_)|(apply z01;refine z07 (z3d rfl) rfl rfl ?_)|(apply z0x;refine z3w ((u1,u2,u3,true):Uq) hix hse ?_)|refine z04 ?_|refine fk (fun _=>?_) fun _=>?_
   all_goals try omega
   all_goals exact z00 ihk' rfl rfl
 ·obtain rfl:k=L.length:=by omega
  rw[List.take_length,zAs,List.append_nil]
  repeat' first|refine z04 ?_|refine fk (fun _=>?_) fun _=>?_
  all_goals try omega
  refine z0o 1000 rfl ?_
  exact z03 func49 _ z1h ⟨rfl,rfl⟩):p:=h
theorem zD7{p:Prop} (h:p:=by
 rintro k ⟨i1,i2⟩ ih
 by_cases hlt:k<W.length
 ·have hw:=z4s hlt
  by_cases hc:ltS (wd W k) x=true
  ·have ih':=ih (k+1) ⟨by omega,fun i hi=>by
    by_cases e:i=k
    ·rw[e];exact hc
    ·exact i2 i (by omega)⟩ (by omega)
   have hc':Op.bytesLess (wd W k).toList x.toList=true:=by rw[zdx];exact hc
   repeat' first|(apply z01;refine z07 (z11 (ys:=W.map stc) rfl (idx hw)) rfl rfl ?_)|(apply z02;refine z0c (z11 (ys:=W.map stc) rfl (idx hw)) rfl rfl ?_)|refine z04 ?_|refine fk (fun _=>?_) (fun _=>?_)|(refine z13 (fun hg=>?_) (fun hg=>?_)<;> simp only[hg] <;> (try simp only[zA3,zA5,zA6,zA8]at hg))
   all_goals try (exfalso;first|omega|(simp[hc']at *;done))
   all_goals exact z00 ih' rfl rfl
  ·have hlo:loS W x=k:=zt3 h x (by omega) i2 (fun _=>by simpa using hc)
   have hc':Op.bytesLess (wd W k).toList x.toList=false:=by rw[zdx];simpa using hc
   have hf:zlm W x=decide (wd W k=x):=by rw[zlm,hlo];simp[hlt]
   rw[hf,hlo]
   clear ih
   repeat' first|(apply z01;refine z07 (z11 (ys:=W.map stc) rfl (idx hw)) rfl rfl ?_)|(apply z02;refine z0c (z11 (ys:=W.map stc) rfl (idx hw)) rfl rfl ?_)|refine z04 ?_|refine fk (fun _=>?_) (fun _=>?_)|(refine z13 (fun hg=>?_) (fun hg=>?_)<;> simp only[hg] <;> (try simp only[zA3,zA5,zA6,zA8]at hg))
   all_goals try (exfalso;first|omega|(simp[hc']at *;done))
   all_goals exact z03 func81 _ z1z ⟨rfl,rfl⟩
 ·obtain rfl:k=W.length:=by omega
  have hlo:loS W x=W.length:=zt3 h x (by omega) i2 fun h=>absurd h (Nat.lt_irrefl _)
  have hf:zlm W x=false:=by rw[zlm,hlo];simp
  rw[hf,hlo]
  clear ih
  repeat' first|refine z04 ?_|refine fk (fun _=>?_) (fun _=>?_)|(refine z13 (fun hg=>?_) (fun hg=>?_)<;> simp only[hg] <;> (try simp only[zA3,zA5,zA6,zA8]at hg))
  all_goals try (exfalso;first|omega|(simp at *;done))
  all_goals exact z03 func81 _ z1z ⟨rfl,rfl⟩):p:=h
theorem zD8{p:Prop} (h:p:=by
 all_goals try omega
 all_goals exact z00 ih' rfl rfl):p:=h
theorem zD9{p:Prop} (h:p:=by
 rw[zAz hqr]at hR
 have g0:d'.toList[((r:Nat):Int).toNat]? =some d'[r]!:=z2e (by omega) (by omega)
 have gc:d'.toList[((a:Nat):Int).toNat]? =some d'[a]!:=z2e (by omega) (by omega)
 have s1:d'.toList.set ((r:Nat):Int).toNat d'[a]! =(d'.setIfInBounds r d'[a]!).toList:=z2p (by omega) _
 have g1:(d'.setIfInBounds r d'[a]!).toList[((a:Nat):Int).toNat]? =some (d'.setIfInBounds r d'[a]!)[a]!:=z2e (by omega) (by simp;omega)
 have s2:(d'.setIfInBounds r d'[a]!).toList.set ((a:Nat):Int).toNat d'[r]! =(Go.Sort.swp d' r a).toList:=z2p (by omega) _
 have z1:(d'.setIfInBounds r d'[a]!).size=d'.size:=by simp
 have z2:(Go.Sort.swp d' r a).size=d'.size:=Go.Sort.swp_size _ _ _
 have hc:=z1c 0 0
 subst hR
 generalize Go.Sort.swp d' r a=d2 at *
 generalize (d'.setIfInBounds r d'[a]!)=d1 at *
 repeat' first|(apply z0b;first|refine z0c (z0e (u:=z1b d'[a]!) ga) rfl rfl ?_| refine z0c (z0e (u:=z1b d'[r]!) g0) rfl rfl ?_)|(apply z02;refine z0c (z1a rfl (by simp only[zA4,zAe];omega)) rfl rfl ?_)|(apply z10;first|refine z0j d'[a]! (by first|exact rfl|exact⟨_,rfl,rfl,rfl⟩) rfl rfl rfl rfl g0 rfl rfl rfl s1 ?_|refine z0j d'[r]! (by first|exact rfl|exact⟨_,rfl,rfl,rfl⟩) rfl rfl rfl rfl g1 rfl rfl rfl s2 ?_)|refine z04 ?_|refine fk (fun _=>?_) (fun _=>?_)|(refine z13 (fun hg=>?_) (fun hg=>?_)<;> simp only[hg] <;> (try simp only[zA3,zA5,zA6,zA8]at hg))
 all_goals try omega
 all_goals refine z3a (raw:=rwA d2) 1000 0 1000 ?_
 all_goals refine z03 func177 _ z1z ⟨rfl,?_⟩
 all_goals simp[z6j,z1m]):p:=h
theorem zD10{p:Prop} (h:p:=by
 skip
 repeat' first|(apply z0t;first|refine z07 (z16 z1e) rfl rfl ?_| refine z07 (z1i z1e) rfl rfl ?_| refine z07 (z7l z1e) rfl rfl ?_| refine z07 (z8p (by omega) (by decide) z1e) rfl rfl ?_)|(apply z06;first|refine z2q e rfl rfl rfl (by decide) ?_|refine z2q e3 rfl rfl rfl (by decide) ?_|refine z2q e2 rfl rfl rfl (by decide) ?_|refine z2q e1 rfl rfl rfl (by decide) ?_)|(apply z1s;(refine z09 z4t ?_;refine zie 9 900 rfl rfl ?_))|refine z04 ?_|refine fk (fun _=>?_) fun _=>?_
 all_goals try omega
 all_goals refine z3a (raw:=rwA d) 1000 0 1000 ?_
 all_goals exact z03 func172 _ z1z ⟨rfl,zjg hX⟩):p:=h
theorem zD11{p:Prop} (h:p:=by
 have he:Ext w own { w with heap:=w.heap.setIfInBounds r (.map cur'.toArray clock') } own:=by
  refine⟨rfl,rfl,rfl,by simp,fun b hb hno=>?_,fun _ _ h=>h⟩
  have:b≠r:=fun e=>hno (e▸ho)
  simp[Ne.symm this]
 have hbr:BR β { w with heap:=w.heap.setIfInBounds r (.map cur'.toArray clock') } own (β (0,ms)) (atF (0,ms) (.mp ((z9h q a v).map fun p=>(g p.1,p.2)))):=by
  rw[hβ]
  refine .mp r clock' _ cur' ho (by simp[hlt]) (by simpa using hl') (fun j x m hx hm=>?_) hbn' hc'
  obtain⟨y,hy,rfl⟩:=zo4 hx
  obtain⟨e1,e2,e3⟩:=hd' j y m hy hm
  exact⟨e1,e2,e3.mono he⟩
 have hheap:=hr.heap.change (raw:=.mp ((z9h q a v).map fun p=>(g p.1,p.2))) hlook rfl he (by simp) (fun g' hg'=>by
  have:g'≠r:=fun e=>hg' (by rw[hβ,e];rfl)
  simp[Ne.symm this]) hbr
 refine⟨.skip,undef,_,β,own,?_,.inr ⟨rfl,rfl⟩,?_,he,rfl⟩
 ·cases insert <;> simp only[execOp,ex',ey,hzv,Bool.false_eq_true,if_false,if_true] <;> simp[hrun]
 ·refine⟨?_,hr.defers,fun t q hq=>?_,?_⟩
  ·rw[(z4a s (0,ms) _).2.1];exact hr.size
  ·rw[(z4a s (0,ms) _).1]at hq;exact(hr.tm t q hq).mono he
  ·rw[z1y];exact hheap):p:=h
theorem zD12{p:Prop} (h:p:=by
 generalize hv:a.tmps.getD t undef=v at hp
 cases hp with
 | ptr _ _ g' hg' =>
  rw[hβ]at hg';simp at hg';subst hg'
  have hlen:cur.length=ti.size:=by rw[←hl,zA4,hs]
  have:=z0z (P:=P) hty g 0 cur w hlen (fun j v hj=>by
   rw[Nat.zero_add,cell_of_row w g j _ tt (0,0) hg];simpa using hj)
  rcases this with h'|h'
  ·have hv2:a.tmps[t]?.getD undef=.pointer (some ⟨g,0,none⟩):=by rw[←Array.getD_eq_getD_getElem?];exact hv
   simp[results,h,hv2,asAddr,h',ha]
  ·rw[ha]at h';cases h'.1):p:=h
theorem zD13{p:Prop} (h:p:=by
 have z1:(d'.setIfInBounds i d'[y]!).size=d'.size:=by simp
 generalize Go.Sort.swp d' i y=d2 at *
 generalize (d'.setIfInBounds i d'[y]!)=d1 at *
 repeat' first|(apply z0b;first|refine z0c (z0e (u:=z1b d'[i]!) g0) rfl rfl ?_| refine z0c (z0e (u:=z1b d'[y]!) gc) rfl rfl ?_)|(apply z02;refine z0c (z1a rfl (by simp only[zA4,zAe];omega)) rfl rfl ?_)|(apply z0t;first|refine z07 (z8p (by omega) (by decide) z1e) rfl rfl ?_| refine z07 (z7l z1e) rfl rfl ?_| refine z07 z4r rfl rfl ?_| refine z07 (z1i (zr4 (by omega) (by omega))) rfl rfl ?_| refine z07 (z1i z1e) rfl rfl ?_| refine z07 (z16 z1e) rfl rfl ?_)|(apply z19;refine z0c (z16 z1e) rfl rfl ?_)|(apply z06;refine z4u hx ?_)|(apply z10;first|refine z0j d'[y]! (by first|exact rfl|exact⟨_,rfl,rfl,rfl⟩) rfl rfl rfl rfl g0 rfl rfl rfl s1 ?_|refine z0j d'[i]! (by first|exact rfl|exact⟨_,rfl,rfl,rfl⟩) rfl rfl rfl rfl g1 rfl rfl rfl s2 ?_)|(apply z4q;refine z07 (z8u rfl rfl z1e) rfl rfl ?_)|refine z04 ?_|refine fk (fun _=>?_) fun _=>?_
 all_goals exact zD8):p:=h
theorem zD14{p:Prop} (h:p:=by
 all_goals try omega
 all_goals refine z2r 601 603 rfl (z08 (z08 (z08 hG1 (by simp)) (by simp)) (by simp)) (Or.inl rfl) rfl (Quiet.upd (Quiet.upd (Quiet.upd hQ1 rfl) rfl) rfl) ?_
 all_goals refine z2r 602 604 rfl (z08 (z08 (z08 (z08 hG2 (by simp)) (by simp)) (by simp)) (by simp)) (Or.inr rfl) rfl (Quiet.upd (Quiet.upd (Quiet.upd (Quiet.upd hQ2 rfl) rfl) rfl) rfl) ?_
 all_goals refine z3a (raw:=bbx 603 604) 600 0 600 ?_
 all_goals refine z03 func132 _ (z2x rfl rfl rfl rfl rfl rfl) ⟨rfl,rfl⟩):p:=h
theorem zD15{p:Prop} (h:p:=by
 all_goals try omega
 all_goals refine z2r 601 603 rfl (z08 (z08 (z08 hG1 (by simp)) (by simp)) (by simp)) (Or.inl rfl) rfl (Quiet.upd (Quiet.upd (Quiet.upd hQ1 rfl) rfl) rfl) ?_
 all_goals refine z2r 602 604 rfl (z08 (z08 (z08 (z08 hG2 (by simp)) (by simp)) (by simp)) (by simp)) (Or.inr rfl) rfl (Quiet.upd (Quiet.upd (Quiet.upd (Quiet.upd hQ2 rfl) rfl) rfl) rfl) ?_
 all_goals refine z3a (raw:=bbx 603 604) 600 0 600 ?_
 all_goals refine z03 func92 _ (z2x rfl rfl rfl rfl rfl rfl) ⟨rfl,rfl⟩):p:=h
theorem zD16{p:Prop} (h:p:=by
 have gq:d'.toList[((r:Nat):Int).toNat]? =some d'[r]!:=z2e (by omega) (by omega)
 have hc:=z1c d'[r]! d'[a]!
 rw[zAo hr.2]at hc
 rw[zpz (by omega) hr.1 (by simp[Go.Sort.ltInt,hr.2])]at r2
 have ih':=ihr (r-1) ⟨by omega,by omega,r2⟩ (by omega)
 obtain⟨hq1,hq2⟩:=hr
 clear ihr
 repeat' first|(apply z0b;first|refine z0c (z0e (u:=z1b d'[r]!) gq) rfl rfl ?_| refine z0c (z0e (u:=z1b d'[a]!) ga) rfl rfl ?_)|(apply z02;refine z0c (z1a rfl (by simp only[zA4,zAe];omega)) rfl rfl ?_)|(apply z0t;refine z07 (z1i z1e) rfl rfl ?_)|(apply z0l;refine z3t hc ?_)|refine z04 ?_|refine fk (fun _=>?_) (fun _=>?_)|(refine z13 (fun hg=>?_) (fun hg=>?_)<;> simp only[hg] <;> (try simp only[zA3,zA5,zA6,zA8]at hg))
 all_goals try omega
 all_goals rw[show((r:Nat):Int)-1=(r-1:Nat) by omega]
 all_goals exact z00 ih' rfl rfl):p:=h
theorem zD17{p:Prop} (h:p:=by
 repeat' first|(apply z0b;first|refine z0c (z0e (u:=z1b d'[q]!) gq) rfl rfl ?_| refine z0c (z0e (u:=z1b d'[a]!) ga) rfl rfl ?_)|(apply z02;refine z0c (z1a rfl (by simp only[zA4,zAe];omega)) rfl rfl ?_)|(apply z0t;refine z07 (z16 z1e) rfl rfl ?_)|(apply z0l;refine z3t hc ?_)|refine z04 ?_|(refine z13 (fun hg=>?_) (fun hg=>?_)<;> simp only[hg] <;> (try simp only[zA3,zA5,zA6,zA8]at hg))
 all_goals exact zD8):p:=h
theorem zD18{p:Prop} (h:p:=by
 rw[←i2]
 clear ih i2
 repeat' first|(apply z0b;first|refine z0c (z0e (u:=z1b d'[F+(2*r+1)]!) ga) rfl rfl ?_| refine z0c (z0e (u:=z1b d'[F+(2*r+2)]!) gb) rfl rfl ?_| refine z0c (z0e (u:=z1b d'[F+r]!) g0) rfl rfl ?_)|(apply z02;refine z0c (z1a rfl (by simp only[zA4,zAe];omega)) rfl rfl ?_)|(apply z0t;first|refine z07 (z7l z1e) rfl rfl ?_| refine z07 (z16 z1e) rfl rfl ?_)|(apply z19;refine z0c (z16 z1e) rfl rfl ?_)|(apply z0l;first|refine z3t hc1 ?_| refine z3t hc0 ?_)|refine z04 ?_|refine fk (fun _=>?_) (fun _=>?_)|(refine z13 (fun hg=>?_) (fun hg=>?_)<;> simp only[hg] <;> (try simp only[zA3,zA5,zA6,zA8]at hg))
 all_goals try omega
 all_goals refine z3a (raw:=rwA d') 1000 0 1000 ?_
 all_goals refine z03 func199 _ (z2o rfl) ⟨rfl,?_⟩
 all_goals simp[z6j,z1m]):p:=h
theorem zD19{p:Prop} (h:p:=by
 refine⟨fun m c hm=>?_,fun m1 m2 c1 c2 e1 e2 l1 l2 hn g hg'=>?_,h2.lt⟩
 ·cases hc:c.live with
  | false=>cases c <;> first|(simp[Blk.live]at hc;done)|exact .gone _
  | true =>
   rcases key m c hm hc with⟨rfl,rfl⟩|⟨_,_,h3⟩
   ·rw[hsame];exact h2.blk _ _ hrow
   ·exact h2.blk m c h3
 ·rcases key m1 c1 e1 l1 with⟨rfl,rfl⟩|⟨n1,n1',h3⟩
  ·rcases key m2 c2 e2 l2 with⟨rfl,rfl⟩|⟨n2,n2',h4⟩
   ·exact absurd rfl hn
   ·rw[hsame]at hg'
    exact h2.inj (0,y) m2 _ c2 hrow h4 l1 l2 (Ne.symm n2') g hg'
  ·rcases key m2 c2 e2 l2 with⟨rfl,rfl⟩|⟨n2,n2',h4⟩
   ·rw[hsame]
    exact h2.inj m1 (0,y) c1 _ h3 hrow l1 l2 n1' g hg'
   ·exact h2.inj m1 m2 c1 c2 h3 h4 l1 l2 hn g hg'):p:=h
theorem zD20{p:Prop} (h:p:=by
 have hX:H 0 1000=some (rwA d):=hH ((0,1000),rwA d) (by simp)
 refine z05 func172 (by kernel_rfl) rfl (by simp) ?_
 dsimp only[f172]
 refine z1k 1000 0 1000 hX rfl rfl ?_
 repeat' first|(apply z0t;first|refine z07 (z16 z1e) rfl rfl ?_| refine z07 (z1i z1e) rfl rfl ?_| refine z07 (z7l z1e) rfl rfl ?_| refine z07 (z8p (by omega) (by decide) z1e) rfl rfl ?_)|(apply z06;refine z2q e rfl rfl rfl (by decide) ?_)|(apply z1s;(refine z09 z4t ?_;refine zie 9 900 rfl rfl ?_))|refine z04 ?_|refine fk (fun _=>?_) fun _=>?_
 all_goals try omega
 all_goals refine z3a (raw:=rwA d) 1000 0 1000 ?_
 all_goals exact z03 func172 _ z1z ⟨rfl,zjg hX⟩):p:=h
theorem zD21{p:Prop} (h:p:=by
 rw[his]
 simp only[madeCells,Array.getElem?_toList,Array.getElem?_map]
 rw[Array.getElem?_range]
 simp only[hlt,if_true,Option.map_some,hzsz]
 have hmod:(i'*te.size+j) % te.size=j:=by rw[Nat.add_comm,Nat.add_mul_mod_self_right];exact Nat.mod_eq_of_lt hj
 rw[hmod,←hzc,Array.getElem?_toList,getElem!_pos z.cells j (by omega),Array.getElem?_eq_getElem (by omega)]):p:=h
theorem zD22{p:Prop} (h:p:=by
 have hdone:=h rest hrest β' own' _ w' hrep' b hb hk (by rw[hout];exact hn) cs
 rw[hout]at hdone
 refine(hdone.ext hext).of_steps (.one (step_lone_go ?_))
 have hgo:=stepGR_op (P:=P) (b:=b) (a:={ a with defers:=b.defers }) (k:=k) (cs:=cs) (w:=w) (rest:=rest) ho hw
 have hfin:∀v,(am b a (.inRegion all (i::rest)::k)).finish v=am b (a.put o.dst v) (.inRegion all rest::k):=by
  intro v;rw[z6c,ho];rfl
 have hsem:=z6g (ro:=b.roundOf) hrun (by rcases hnx with rfl|⟨rfl,_⟩ <;> simp)
 rw[←z8j b a]at hsem
 rw[show am b a (.inRegion all (i::rest)::k)=b.atR { a with defers:=b.defers } (.inRegion all (i::rest)::k)from rfl]at hfin⊢
 rw[hgo,←hfin]
 rcases hnx with rfl|⟨rfl,rfl⟩ <;> simp[stepG.apply,hsem]):p:=h
theorem zD23{p:Prop} (h:p:=by
 repeat' first|(apply z1n;refine z09 z3s ?_)|refine z04 ?_|refine fk (fun _=>?_) fun _=>?_
 all_goals try omega
 all_goals exact z03 func112 _ z1h ⟨rfl,rfl⟩):p:=h
theorem zD24{p:Prop} (h:p:=by
 rw[←hto]at c2
 repeat' first|(apply z3p;refine z0c (z9j rfl (by omega) (by omega)) rfl rfl ?_)|(apply z06;refine z8x hst1 rfl (z1q (m:=(0,20)) rfl z5l) (by decide) ?_)|(apply z4q;refine z07 (zed hes0 rfl rfl) rfl rfl ?_)|refine z04 ?_|refine fk (fun _=>?_) (fun _=>?_)|(apply z0r;refine z1r hlt2 rfl rfl (by decide) ?_)|(refine z13 (fun hg=>?_) (fun hg=>?_)<;> simp only[hg] <;> (try simp only[zA3,zA5,zA6,zA8]at hg))
 all_goals try omega
 all_goals try (exfalso;simp_all;done)
 all_goals exact z00 ih2 rfl rfl):p:=h
theorem zD25{p:Prop} (h:p:=by
 all_goals try (exfalso;first|omega|(simp at *;done))
 all_goals exact z00 ih' rfl rfl):p:=h
theorem zD26{p:Prop} (h:p:=by
 intro hp h1 q1
 have qq:∀x,z2m (0,x) hp=true→z73 (push hp H) (0,x):=fun x q e t b he hb=>by
  obtain rfl:e=0:=by simp at he;omega
  exact z38 q hb
 have:=zgj s (push hp H) h1 (qq 901 q1)
 rw[z9m]at this
 exact this):p:=h
theorem zD27{p:Prop} (h:p:=by
 intro j x m hx hm
 rw[z8h q a v h1]at hx
 by_cases hj:j<q.length
 ·rw[zAb hj]at hx
  rw[zAb (by omega)]at hm
  exact hd j (g x.1,x.2) m (by rw[zAd,hx];rfl) hm
 ·have hj2:=(zA1.1 hx).1
  simp at hj2
  obtain rfl:j=q.length:=by omega
  rw[zAg (zAj _)]at hx
  rw[zAg (by omega),hlen]at hm
  simp at hx hm;subst hx;subst hm
  exact⟨rfl,hz1.1,hz1.2⟩):p:=h
theorem zD28{p:Prop} (h:p:=by
 repeat' first|(apply z0t;refine z07 zc7 rfl rfl ?_)|(apply z06;refine zn1 hl rfl hX hZ (by decide) ?_)|refine z04 ?_|fail
 all_goals exact z03 func131 _ (z2x rfl rfl rfl rfl rfl rfl) ⟨by first|rfl|(dsimp only[ptc];rw[←ho2];rfl)|(dsimp only[ptc];rw[←ho1];rfl)|(dsimp only[ptc];rw[←ho1,←ho2];rfl),rfl⟩):p:=h
theorem zD29{p:Prop} (h:p:=by
 repeat' first|(apply z01;first|refine z07 (z11 (ys:=lv.map fun r=>[rgs r]) rfl (idx (g:=fun r=>[rgs r]) hr)) rfl rfl ?_| refine z07 (z11 (ys:=pts.map rcc) rfl (idx (g:=rcc) hx)) rfl rfl ?_)|(apply z02;refine z0c (z11 (ys:=pts.map rcc) rfl (idx (g:=rcc) hx)) rfl rfl ?_)|(apply z0t;first|refine z07 (z99 (by omega)) rfl rfl ?_| refine z07 z4r rfl rfl ?_)|(apply z19;first|refine z0c (zmn (by omega)) rfl rfl ?_| refine z0c zc7 rfl rfl ?_)|(apply z06;refine z1o hcl ?_)|refine z04 ?_|refine fk (fun _=>?_) fun _=>?_
 all_goals try omega
 all_goals exact z00 ihn' rfl rfl):p:=h
theorem zD30{p:Prop} (h:p:=by
 simp only[exR]at hex
 simp only[zzc]
 refine z05 func21 (by kernel_rfl) rfl (by simp) ?_
 dsimp only[f21]
 repeat' (first | (apply z0r; (refine z7c rfl rfl (by decide) ?_)) | (apply z06; (first | refine z6s hex ?_| refine z1o hval ?_| (refine zbc rfl (hof _) (by decide) rfl (fun r H' h => ⟨_, h.1, h.2, rfl, rfl, ?_⟩)) /- z65 -/)) | (apply z1n; (refine z09 z3s ?_)) | refine z04 ?_ | fail)
 all_goals try (exfalso;first|omega|(simp at *;done)|(simp at *;omega))
 all_goals exact z03 func21 _ (z0h rfl rfl rfl rfl rfl rfl rfl) ⟨rfl,rfl⟩):p:=h
theorem zD31{p:Prop} (h:p:=by
 refine⟨fun m c hc=>?_,fun m1 m2 c1 c2 e1 e2 l1 l2 hn=>?_,hr.heap.lt⟩
 ·by_cases hm:m=(md+1,ms)
  ·subst hm
   rw[hgone]at hc;simp at hc;subst hc;exact .gone _
  ·rw[hne m hm];exact(hr.heap.blk m c hc).reβ (md+1,ms) hne (hold m c hc)
 ·have hg1:∀m c,z0d (push hp up) m=some c→c.live=true→m≠(md+1,ms):=by
   rintro m c hc hl rfl
   rw[hgone]at hc;simp at hc;subst hc;cases hl
  rw[hne m1 (hg1 m1 c1 e1 l1),hne m2 (hg1 m2 c2 e2 l2)]
  exact hr.heap.inj m1 m2 c1 c2 e1 e2 l1 l2 hn):p:=h
theorem zD32{p:Prop} (h:p:=by
 refine⟨_,.slice (some ⟨w.heap.size,0,none⟩) a.toNat a.toNat,_,z4b β d (.slice (some ⟨w.heap.size,0,none⟩) a.toNat a.toNat),_,?_,.inl rfl,?_,hE,z1p _ _ _⟩
 ·simp only[execOp,(hr.ev hx).lit,(hr.ev hy).lit]
  simp[hrun]
 ·have hp':=PR.ref (β:=z4b β d (.slice (some ⟨w.heap.size,0,none⟩) a.toNat a.toNat)) (w:=w.alloc (.cells (madeCells z.cells (a.toNat*i.size)) e)) (own:=fun g=>own g∨g=w.heap.size) (0,d)
  rw[z0w]at hp'
  exact hin.put (dst:=some d) (p:=.ref (0,d)) (by simpa[St.fits]using hd) hp'):p:=h
theorem zD33{p:Prop} (h:p:=by
 induction A with
 | nil=>rfl
 | cons q r ih=>obtain⟨kk,c⟩:=q;simp only[List.cons_append,Ab.look];split <;> simp[ih]):p:=h
theorem zD34{p:Prop} (h:p:=by
 cases p <;> cases q
 all_goals repeat' first|refine z04 ?_|refine fk (fun _=>?_) fun _=>?_
 all_goals try omega
 all_goals exact z03 func106 _ z1h ⟨rfl,rfl⟩):p:=h
theorem zD35{p:Prop} (h:p:=by
 simp only[exR]at hmi
 simp only[zzc]
 refine z05 func41 (by kernel_rfl) rfl (by simp) ?_
 dsimp only[f41]
 repeat' first|(apply z06;first|refine z1o hva ?_| refine z1o hvb ?_| refine z1o hp ?_| refine z1o hmi ?_)|(apply z1n;refine z09 z3s ?_)|refine z04 ?_|refine fk (fun _=>?_) fun _=>?_
 all_goals try (exfalso;first|omega|(simp at *;done)|(simp at *;omega))
 all_goals exact z03 func41 _ (z0h rfl rfl rfl rfl rfl rfl rfl) ⟨rfl,rfl⟩):p:=h
theorem zD36{p:Prop} (h:p:=by
 refine z0f ?_
 refine z00 (z0s (fun r:Nat × Array Int=>⟨133,[(0,.ref (0,1000)),(1,I .i64 (a:Nat)),(2,I .i64 (b:Nat)),(7,I .i64 (q:Nat)),(8,I .i64 (j:Nat)),(10,I .i64 (r.1:Nat)),(101000,.al (0,1000) (1,1000))],[(1000,rwA r.2)],upd H (0,1000) .gone⟩) (fun r=>r.2.size=d.size∧q<r.1∧r.1≤b∧Go.Sort.shiftUp Go.Sort.ltInt b r.1 r.2=D4) (fun r=>b-r.1) ?_ (q+1,e3) ⟨hz3,by simp only;omega,by simp only;omega,hD4⟩) rfl rfl
 exact zD2):p:=h
theorem zD37{p:Prop} (h:p:=by
 intro i x m' hx hm'
 rw[hset]at hx
 by_cases hi:i=j
 ·subst hi
  rw[zAp (by omega)]at hx
  rw[zAp hjl]at hm'
  simp at hx hm';subst hx;subst hm'
  exact⟨rfl,hz1.1,hz1.2⟩
 ·rw[List.getElem?_set_ne (Ne.symm hi)]at hx hm'
  exact hd i (g x.1,x.2) m' (by rw[zAd,hx];rfl) hm'):p:=h
theorem zD38{p:Prop} (h:p:=by
 cases hr:Region.ready .any ops.toArray listed with
 | nil=>rfl
 | cons x xs =>
  rw[hr]at hi
  have hlt:tt % (x::xs).length<(x::xs).length:=Nat.mod_lt _ (by simp)
  simp at hi
  simp at hlt
  omega):p:=h
theorem zD39{p:Prop} (h:p:=by
 have hw:RowKit.Below w.heap.size w { w with drawn:=w.drawn+1 }:=⟨rfl,rfl,rfl,zAj _,fun _ _=>rfl⟩
 have hdone:=key β own a { w with drawn:=w.drawn+1 } (hrep.below hw) b hb hk hn cs
 refine(hdone.ext (Below.ext hw own)).of_steps (.one ?_)
 have:=stepR_region_draw (P:=P) (b:=b) (a:={ a with defers:=b.defers }) (k:=k) (cs:=cs) (w:=w) (ops:=ops.toArray) (id:=id)
 refine this.trans ?_
 simp only[Region.schedule,hmix,Bool.true_or,if_true]
 rfl):p:=h
theorem zD40{p:Prop} (h:p:=by
 repeat' first|(apply z0t;refine z07 (z16 (zc9 (by omega) (by omega))) rfl rfl ?_)|refine z04 ?_|refine fk (fun _=>?_) fun _=>?_
 all_goals try omega
 all_goals exact z03 func179 _ z1h ⟨rfl,rfl⟩):p:=h
theorem zD41{p:Prop} (h:p:=by
 repeat' first|(apply z01;refine z07 (z11 (ys:=lv.map fun r=>[rgs r]) rfl hli) rfl rfl ?_)|(apply z0t;first|refine z07 (z99 (by omega)) rfl rfl ?_| refine z07 (zmn (by omega)) rfl rfl ?_| refine z07 z4r rfl rfl ?_| refine z07 zc7 rfl rfl ?_)|(apply z06;refine z1o hcl ?_)|refine z04 ?_|refine fk (fun _=>?_) fun _=>?_
 all_goals try omega
 all_goals exact z00 ihn' rfl rfl):p:=h
theorem zD42{p:Prop} (h:p:=by
 all_goals try omega
 all_goals exact z03 func42 _ (z3u rfl rfl rfl rfl rfl rfl rfl rfl) ⟨rfl,rfl⟩):p:=h
theorem zD43{p:Prop} (h:p:=by
 show PV.saysL (j,x) (PV.liftL 0 cs)=PV.saysL (j,x) cs
 have h0:∀p:PV,p.lift 0=p:=by
  intro p
  refine PV.rec (motive_1:=fun p=>p.lift 0=p) (motive_2:=fun ps=>PV.liftL 0 ps=ps) ?_ ?_ ?_ ?_ ?_ ?_ ?_ ?_ ?_ ?_ ?_ ?_ ?_ ?_ ?_ p <;> intros <;> simp_all [PV.lift,PV.liftL]
 have:∀cs,PV.liftL 0 cs=cs:=by
  intro cs;induction cs with
  | nil=>rfl
  | cons p r ih=>simp[PV.liftL,h0,ih]
 rw[this]):p:=h
theorem zD44{p:Prop} (h:p:=by
 rw[Ab.look]at hb
 split at hb
 ·rename_i h1;subst h1;simp at hb;subst hb;exact⟨by decide,by decide,by decide,zvn F A _ _⟩
 ·simp[Ab.look]at hb):p:=h
theorem zD45{p:Prop} (h:p:=by
 have:(cur.set j { m with key:=g a,val:=zv }).map (·.born)=cur.map (·.born):=by
  rw[List.map_set]
  apply List.ext_getElem?
  intro i
  rw[List.getElem?_set]
  by_cases hi:j=i
  ·subst hi;simp[hjl];exact congrArg MapEntry.born (zA1.1 h2).2.symm
  ·simp[hi]
 rw[this];exact hbn):p:=h
theorem zD46{p:Prop} (h:p:=by
 have hf:(decide (r.1≤c)&&decide (c≤r.2))=false:=by
  rw[←Bool.decide_and];exact zAo hc
 rw[hf,Bool.false_or]at i2
 repeat' first|(apply z01;refine z07 (z11 (ys:=l.map rgc) rfl (idx hr)) rfl rfl ?_)|refine z04 ?_|refine fk (fun _=>?_) fun _=>?_
 all_goals try omega
 all_goals exact z00 (ih (q+1) ⟨by omega,i2⟩ (by omega)) rfl rfl):p:=h
theorem zD47{p:Prop} (h:p:=by
 repeat' first|(apply z06;first|refine z1o h1 ?_| refine z1o h2 ?_)|refine z04 ?_|refine fk (fun _=>?_) fun _=>?_
 all_goals try omega
 all_goals exact z03 func146 _ z1h ⟨rfl,rfl⟩):p:=h
theorem zD48{p:Prop} (h:p:=by
 simp only[exR]at he⊢
 repeat' first|(apply z0r;refine z7c rfl rfl (by decide) ?_)|(apply z01;refine z07 (z11 (ys:=cl.map icc) rfl (zam (g:=icc) hk0i)) rfl rfl ?_)|(apply z06;refine z6s he ?_)|refine z04 ?_|refine fk (fun _=>?_) fun _=>?_
 all_goals try omega
 all_goals exact z03 func79 _ (z0h rfl rfl rfl rfl rfl rfl rfl) ⟨rfl,rfl⟩):p:=h
theorem zD49{p:Prop} (h:p:=by
 have hbr:=hr.heap.blk (md+1,ms) _ hlook
 refine HR.install (d:=y) hr0 hfr.1 (Ext.refl w own) hr.heap.lt (v:=β (md+1,ms)) (b:=raw.lift (md+1)) (fun m c hm hc hmy g hg=>?_) (hbr.reβ (0,y) (z1x β y _) (Blk.lift_says _ _ _))
 obtain⟨h1,h2⟩:=key m c hm hc
 exact⟨rfl,(hr.heap.blk m c h2).block_lt hc hg,fun _=>hr.heap.inj m (md+1,ms) c _ h2 hlook hc hl' h1 g hg⟩):p:=h
theorem zD50{p:Prop} (h:p:=by
 repeat' first|(apply z0r;refine z8w hk1 rfl rfl rfl (by decide) rfl rfl rfl (by decide) rfl rfl rfl rfl ?_)|(apply z01;refine z07 (z11 (ys:=ks.map rxc) rfl (zbw hki)) rfl rfl ?_)|(apply z0t;refine z07 zc7 rfl rfl ?_)|refine z04 ?_|refine fk (fun _=>?_) fun _=>?_
 all_goals try omega
 all_goals (rw[←ho1,←ho2]at ih';exact z00 ih' rfl rfl)):p:=h
theorem zD51{p:Prop} (h:p:=by
 obtain⟨i,u,z,hi,hu,hz,hs,hb,hk',_⟩:=h.get
 rw[hk]at hk'
 cases u <;> simp[TK.ofD]at hk' <;> simp_all):p:=h
theorem zD52{p:Prop} (h:p:=by
 repeat' first|refine z04 ?_|refine fk (fun _=>?_) fun _=>?_
 all_goals try omega
 all_goals (refine z03 func130 _ z1h ⟨?_,rfl⟩;rw[hvl];simp_all <;> omega)):p:=h
theorem zD53{p:Prop} (h:p:=by
 obtain⟨j,hj⟩:=zAw hv
 have hjl:=(zA1.1 hj).1
 rw[hlen]at hjl
 have h2:=hget (j / te.size) (j % te.size) ((Nat.div_lt_iff_lt_mul (by omega)).2 hjl) (Nat.mod_lt _ (by omega))
 rw[Nat.div_add_mod' j te.size,hj]at h2
 rw[List.all_eq_true]at hz
 exact hz v (zA2 h2.symm)):p:=h
theorem zD54{p:Prop} (h:p:=by
 have hp:=PR.ref (β:=z4b β d v') (w:=w') (own:=fun g=>own g∨v'.ownBlock=some g) (0,d)
 rw[z0w]at hp
 exact hin.put (dst:=some d) (p:=.ref (0,d)) (by simpa[St.fits]using hd) hp):p:=h
theorem zD55{p:Prop} (h:p:=by
 repeat' first|(apply z01;refine z07 (z11 (ys:=l.map z3g) rfl (idx hx)) rfl rfl ?_)|(apply z06;refine zbv (first:=[]) (cap:=[]) (ps:=[.d (zde l),I .i32 c,.fn (.func 145) [] []]) hb rfl rfl (by decide) ?_)|refine z04 ?_|refine fk (fun _=>?_) fun _=>?_
 all_goals try omega
 all_goals exact z03 func111 _ z1h ⟨rfl,rfl⟩):p:=h
theorem zD56{p:Prop} (h:p:=by
 repeat' first|(apply z01;refine z07 (z11 (ys:=l.map z3g) rfl (idx hx)) rfl rfl ?_)|(apply z06;refine zbv (first:=[]) (cap:=[]) (ps:=[.d (.agg (z3g x)),I .i32 c]) hc rfl rfl (by decide) ?_)|refine z04 ?_|refine fk (fun _=>?_) fun _=>?_
 all_goals try omega
 all_goals exact z03 func144 _ z1z ⟨rfl,rfl⟩):p:=h
theorem zD57{p:Prop} (h:p:=by
 repeat' first|(apply z7n;(exact z00 hk rfl rfl))|(apply z0t;first|refine z07 (z1i z1e) rfl rfl ?_| refine z07 (z16 z1e) rfl rfl ?_| refine z07 (z8p (by omega) (by decide) z1e) rfl rfl ?_)|(apply z06;first|refine z4u hi ?_| refine z4u hr ?_)|refine z04 ?_|refine fk (fun _=>?_) fun _=>?_
 all_goals try omega):p:=h
theorem zD58{p:Prop} (h:p:=by
 simp only[execOp]
 have:(Array.map (fun x:Nat × Operand=>match x with|(i,x)=>(i,a.eval x)) l.toArray)=l.toArray.map fun x=>(x.1,a.eval x.2):=rfl
 rw[this,Sem.run_bind,hrun]
 rfl):p:=h
theorem zD59{p:Prop} (h:p:=by
 have gq:d'.toList[((q:Nat):Int).toNat]? =some d'[q]!:=z2e (by omega) (by omega)
 have hc:=z1c d'[q]! d'[a]!
 rw[zAi hq.2]at hc
 rw[y5x hq.1 (by simp[Go.Sort.ltInt,hq.2])]at q2
 have ih':=ihq (q+1) ⟨by omega,by omega,q2⟩ (by omega)
 obtain⟨hq1,hq2⟩:=hq
 clear ihq
 all_goals exact zD17):p:=h
theorem zD60{p:Prop} (h:p:=by
 simp only[exR]at hex⊢
 refine z05 func78 (by kernel_rfl) rfl (by simp) ?_
 dsimp only[f78]
 repeat' first|(apply z0r;refine z7c rfl rfl (by decide) ?_)|(apply z06;refine z6s hex ?_)|(apply z1n;refine z09 z3s ?_)|refine z04 ?_|fail
 all_goals exact z03 func78 _ (z0h rfl rfl rfl rfl rfl rfl rfl) ⟨rfl,rfl⟩):p:=h
theorem zD61{p:Prop} (h:p:=by
 have h1:=hr x (zA2 hx)
 have h2:=hr y (zA2 hy)
 have:x<y:=by
  obtain⟨a1,a2⟩:=zA1.1 hx
  obtain⟨b1,b2⟩:=zA1.1 hy
  have:=List.pairwise_iff_getElem.1 hlt i (i+1) a1 b1 (by omega)
  rw[←a2,←b2];exact this
 simp only;omega):p:=h
theorem zD62{p:Prop} (h:p:=by
 rw[zA4,zAa,zAn,show(((P.length+1:Nat):Int)-1).toNat=P.length by omega];simp):p:=h
theorem zD63{p:Prop} (h:p:=by
 repeat' first|(apply z01;refine z07 (z11 (ys:=l.map z3g) rfl (zam hxi)) rfl rfl ?_)|(apply z0t;refine z07 (zfs (by omega)) rfl rfl ?_)|(apply z06;refine zbv (first:=[]) (cap:=[]) (ps:=[.d (.agg (z3g x)),I .i32 c]) hc rfl rfl (by decide) ?_)|refine z04 ?_|refine fk (fun _=>?_) fun _=>?_
 all_goals exact zD8):p:=h
theorem zD64{p:Prop} (h:p:=by
 refine .d _ _ (.agg _ _ (by simpa using hl) h1 fun j x v hx hv=>?_)
 have:=hd j (.d x) v (by rw[zAd,hx];rfl) hv
 cases this with|d _ _ h=>exact h):p:=h
theorem zD65{p:Prop} (h:p:=by
 all_goals try omega
 all_goals refine z3a (raw:=rwA d') 1000 0 1000 ?_
 all_goals refine z03 func174 _ z1h ⟨rfl,?_⟩
 all_goals simp[z6j,z1m]):p:=h
theorem zD66{p:Prop} (h:p:=by
 rw[←hh]at hc
 repeat' first|(apply z0t;refine z07 (zfs (by omega)) rfl rfl ?_)|(apply z06;refine zlt (first:=[]) (cap:=PV.liftL 1 caps) (ps:=[I .i64 ((((i:Nat):Int)+((j:Nat):Int)) / 2)]) hc rfl rfl (hb _ _ _) (by decide) ?_)|refine z04 ?_|refine fk (fun _=>?_) fun _=>?_
 all_goals exact zD8):p:=h
theorem zD67{p:Prop} (h:p:=by
 clear ih
 repeat' first|(apply z0t;refine z07 (z1i z1e) rfl rfl ?_)|(apply z06;refine z4u hi ?_)|refine z04 ?_|refine fk (fun _=>?_) fun _=>?_
 all_goals try omega
 refine z3a (raw:=rwA S) 1000 0 1000 ?_
 refine z03 func133 _ (z2o rfl) ⟨rfl,?_⟩
 simp[z6j,z1m]):p:=h
theorem zD68{p:Prop} (h:p:=by
 refine⟨hgrow.os,hgrow.tape,hgrow.output,hgrow.size,fun b hb hno=>hgrow.block b hb fun e=>hno (ho b e.symm),fun b hb hno=>?_⟩
 rintro(h|h)
 ·exact hno h
 ·rcases hwhere with e|e
  ·rw[e]at h;exact hno (ho b h)
  ·rw[e]at h;simp at h;omega):p:=h
theorem zD69{p:Prop} (h:p:=by
 have h1:=(hlist i).2 hx
 rw[Array.getD_eq_getD_getElem?,Array.getElem?_eq_getElem (by omega)]at h1 hun
 simp at h1 hun
 rw[h1]at hun;cases hun):p:=h
theorem zD70{p:Prop} (h:p:=by
 refine z7h (raw:=.box [.ref (0,5000)]) 700 1 3 (z08 v3 (by simp)) ?_
 refine zd3 rfl ⟨rfl,?_⟩
 rw[←hV,z1m,z8b (by simp),z1m,zbt (m:=(1,3)) hb3]):p:=h
theorem zD71{p:Prop} (h:p:=by
 apply List.ext_getElem?
 intro i
 rw[List.getElem?_modify,List.getElem?_set]
 by_cases hi:j=i
 ·subst hi;simp[h2,hjl];exact congrArg MapEntry.born (zA1.1 h2).2
 ·simp[hi]):p:=h
theorem zD72{p:Prop} (h:p:=by
 generalize hxv:ac.eval x=xv at ex
 cases ex with
 | ref _=>exact hβ):p:=h
theorem zD73{p:Prop} (h:p:=by
 repeat' first|(apply z06;first|refine z4u c1 ?_| refine z1o c2 ?_| refine z1o c4 ?_)|(apply z1n;refine z09 z3s ?_)|refine z04 ?_|refine fk (fun _=>?_) fun _=>?_
 all_goals try omega
 refine z03 func51 _ z1h ⟨?_,rfl⟩
 simp[hp]):p:=h
theorem zD74{p:Prop} (h:p:=by
 all_goals try omega
 all_goals ((repeat rw[z1v]);first|exact z03 func45 _ (z0h rfl rfl rfl rfl rfl rfl rfl) ⟨rfl,rfl⟩|exact z03 func45 _ z1z ⟨rfl,rfl⟩|exact z03 func45 _ z1h ⟨rfl,rfl⟩|exact z03 func45 _ z7k ⟨rfl,rfl⟩)):p:=h
theorem zD75{p:Prop} (h:p:=by
 all_goals try omega
 all_goals ((repeat rw[z1v]);first|exact z03 func196 _ (z0h rfl rfl rfl rfl rfl rfl rfl) ⟨rfl,rfl⟩|exact z03 func196 _ z1z ⟨rfl,rfl⟩|exact z03 func196 _ z1h ⟨rfl,rfl⟩|exact z03 func196 _ z7k ⟨rfl,rfl⟩)):p:=h
theorem zD76{p:Prop} (h:p:=by
 all_goals try omega
 all_goals ((repeat rw[z1v]);first|exact z03 func164 _ (z0h rfl rfl rfl rfl rfl rfl rfl) ⟨rfl,rfl⟩|exact z03 func164 _ z1z ⟨rfl,rfl⟩|exact z03 func164 _ z1h ⟨rfl,rfl⟩|exact z03 func164 _ z7k ⟨rfl,rfl⟩)):p:=h
theorem zD77{p:Prop} (h:p:=by
 simp only[look]at hq
 split at hq
 ·rename_i hh;subst hh;exact .inl ⟨rfl,by simpa using hq.symm⟩
 ·exact .inr hq):p:=h
theorem zD78{p:Prop} (h:p:=by
 repeat' first|(apply z0t;refine z07 z4r rfl rfl ?_)|refine z04 ?_|(apply z0r;refine z2l hlt rfl rfl (by decide) ?_)
 all_goals try omega
 all_goals exact z03 func63 _ z1h ⟨congrArg (fun b=>RV.v (B b)) hfin,rfl⟩):p:=h
theorem zD79{p:Prop} (h:p:=by
 rw[PV.liftL_get]at hx
 cases hc:cs[j]? with
 | none=>simp[hc]at hx
 | some y=>rw[hc]at hx;simp at hx;subst hx;exact ih j y v hc hv):p:=h
theorem zD80{p:Prop} (h:p:=by
 obtain⟨h1,h2⟩:=hr
 refine⟨h1,?_⟩
 rcases h2 with h2|⟨g,cap,cur,hv,hb,hg,rest⟩
 ·exact .inl h2
 ·subst hv
  refine .inr ⟨g,cap,cur,rfl,hb,?_,rest⟩
  rw[(hk rfl g rfl).1];exact hg):p:=h
theorem zD81{p:Prop} (h:p:=by
 rw[hβ]at hbr⊢
 cases hbr with
 | lp g _ _ _ _ _ _ _ _ tmps' df' ho' hg' hl hd =>
  rw[hg]at hg';simp at hg'
  obtain⟨rfl,rfl⟩:=hg'
  exact .lp L n' f' ps asg body _ state' pend' tmps df ho hhere hl fun t p hp=>(hd t p hp).mono hE):p:=h
theorem zD82{p:Prop} (h:p:=by
 all_goals refine z7h (raw:=.glob 1 τ.o0) 700 0 700 (z08 (z1g _ (0,700) _) (by simp)) ?_
 all_goals refine z7h (raw:=.glob 2 τ.o1) 701 0 701 (z08 (z1g _ (0,701) _) (by simp)) ?_
 all_goals exact z03 func10 _ z1h ⟨rfl,zes hX0 hX1⟩):p:=h
theorem zD83{p:Prop} (h:p:=by
 repeat' first|(apply z14;refine z07 (z18 rfl) rfl rfl ?_)|refine z04 ?_|refine fk (fun _=>?_) fun _=>?_
 all_goals try omega
 all_goals exact z03 func118 _ (z0h rfl rfl rfl rfl rfl rfl rfl) ⟨rfl,rfl⟩):p:=h
theorem zD84{p:Prop} (h:p:=by
 repeat' first|refine z04 ?_|refine fk (fun _=>?_) fun _=>?_
 all_goals exact zD8):p:=h
theorem zD85{p:Prop} (h:p:=by
 by_cases hji:j=i
 ·subst hji;simp[hsz,hilt]
 ·rw[getD_set_ne false (Ne.symm hji),hlist];simp[hji]):p:=h
theorem zD86{p:Prop} (h:p:=by
 all_goals ((repeat rw[z1v]);first|exact z03 func48 _ (z0h rfl rfl rfl rfl rfl rfl rfl) ⟨rfl,rfl⟩|exact z03 func48 _ z1z ⟨rfl,rfl⟩|exact z03 func48 _ z1h ⟨rfl,rfl⟩|exact z03 func48 _ z7k ⟨rfl,rfl⟩)):p:=h
theorem zD87{p:Prop} (h:p:=by
 all_goals try omega
 all_goals exact z03 func63 _ z1h ⟨rfl,rfl⟩):p:=h
theorem zD88{p:Prop} (h:p:=by
 repeat' first|(apply z1n;refine z09 z3s ?_)|refine z04 ?_|refine fk (fun _=>?_) fun _=>?_
 all_goals try (exfalso;simp only[zA4]at *;omega)
 all_goals exact z03 func37 _ z1h ⟨rfl,rfl⟩):p:=h
theorem zD89{p:Prop} (h:p:=by
 repeat' first|(apply z14;refine z07 (z18 rfl) rfl rfl ?_)|refine z04 ?_|refine fk (fun _=>?_) fun _=>?_
 all_goals try omega
 refine z0o 1000 rfl ?_
 exact z03 func94 _ z1h ⟨rfl,rfl⟩):p:=h
theorem zD90{p:Prop} (h:p:=by
 rw[hr]at hrun
 simp only[Result.ok.injEq]at hrun
 right;rw[←hrun.1];rfl):p:=h
theorem zD91{p:Prop} (h:p:=by
 rw[zAy h]
 by_cases h2:5000+j≤s
 ·rw[zAz (by omega),zAz h2,show s-(5000+j)=(s-(5000+(j+1)))+1 by omega,List.getElem?_cons_succ]
 ·rw[zAy (by omega),zAy h2]):p:=h
theorem zD92{p:Prop} (h:p:=by
 simp only[List.drop_succ_cons,List.drop_zero,List.cons_append,List.nil_append,List.cons.injEq,and_true]
 omega):p:=h
theorem zD93{p:Prop} (h:p:=by
 rw[List.map_append,List.pairwise_append]
 refine⟨hbn,by simp,fun u hu v hv=>?_⟩
 obtain⟨m,hm,rfl⟩:=List.mem_map.1 hu
 simp at hv;subst hv
 exact hc m hm):p:=h
theorem zD94{p:Prop} (h:p:=by
 cases hx:xss[s-(5000+0)]? with
 | none=>rw[hx]at hb';cases hb'
 | some ys =>
  rw[hx]at hb'
  simp at hb';subst hb'
  simp[zo5]):p:=h
theorem zD95{p:Prop} (h:p:=by
 rw[zah]at hp
 cases hc:cs[j]? with
 | none=>rw[hc]at hp;simp at hp
 | some c=>rw[hc]at hp;simp at hp;subst hp;exact(hd j c v hc hv).ren):p:=h
theorem zD96{p:Prop} (h:p:=by
 all_goals refine z1d 103 1003 ?_
 all_goals exact z00 ihj' rfl rfl):p:=h
theorem zD97{p:Prop} (h:p:=by
 rw[zcf]at hp
 cases hc:cs[j]? with
 | none=>rw[hc]at hp;simp at hp
 | some c=>rw[hc]at hp;simp at hp;subst hp;exact PR.frz hD (hd j c v hc hv)):p:=h
theorem zD98{p:Prop} (h:p:=by
 unfold za6 at hn⊢
 cases hm:R.rnd with
 | none=>rw[hm]at hn;exact hn
 | some m =>
  rw[hm]at hn
  obtain⟨hv,L,h1,h2⟩:=hn
  exact⟨hv,L,h1,(hout m hv).trans h2⟩):p:=h
theorem zD99{p:Prop} (h:p:=by
 repeat' first|(apply z7n;(exact z00 hk rfl rfl))|(apply z0t;refine z07 (z1i z1e) rfl rfl ?_)|(apply z06;refine z4u hi ?_)|refine z04 ?_|fail
 all_goals try omega):p:=h
theorem zD100{p:Prop} (h:p:=by
 simp only at hp'
 rw[z5o]at hp'
 cases hq':look tm t with
 | none=>rw[hq']at hp';cases hp'
 | some q=>rw[hq']at hp';simp at hp';subst hp';exact(hr.tm t q hq').drop hne):p:=h
theorem zD101{p:Prop} (h:p:=by
 intro m' hm'
 rcases List.mem_or_eq_of_mem_set hm' with h|h
 ·exact hc m' h
 ·subst h;exact hc m (zA2 h2)):p:=h
theorem zD102{p:Prop} (h:p:=by
 intro m c hm hc
 rw[z5a,z2k]at hm
 by_cases e:m=(md+1,ms)
 ·rw[zAz e]at hm;simp[atF,Blk.lift]at hm;subst hm;cases hc
 ·rw[zAy e]at hm;exact⟨e,hm⟩):p:=h
theorem zD103{p:Prop} (h:p:=by
 intro i' j hi' hj
 have hlt:i'*te.size+j<a.toNat*te.size:=by
  have:(i'+1)*te.size≤a.toNat*te.size:=Nat.mul_le_mul_right _ hi'
  rw[Nat.add_mul]at this;omega
 exact zD21):p:=h
theorem zD104{p:Prop} (h:p:=by
 all_goals try (exfalso;first|omega|(simp at *;done))
 all_goals exact z00 ihj' rfl rfl):p:=h
theorem zD105{p:Prop} (h:p:=by
 cases hh:Ab.look pre (5000+i)with
 | none=>rfl
 | some c=>have:=(hp1 _ _ hh).1;omega):p:=h
theorem zD106{p:Prop} (h:p:=by
 by_cases g0:0≤c
 ·rw[zAo (show ¬c≤1114111 from fun g1=>g ⟨g0,g1⟩),Bool.and_false]
 ·rw[zAo g0];rfl):p:=h
theorem zD107{p:Prop} (h:p:=by
 rw[hal2,show(((m.length+1:Nat):Int)-1).toNat=m.length by omega];simp):p:=h
theorem zD108{p:Prop} (h:p:=by
 all_goals try (exfalso;first|omega|(simp at *;done))
 all_goals rw[h5,i2]
 all_goals refine z0o 60 rfl ?_
 all_goals exact z03 func104 _ z1h ⟨rfl,rfl⟩):p:=h
theorem zD109{p:Prop} (h:p:=by
 cases ez with
 | d _ _ h =>
  refine⟨?_,h⟩
  cases h with
  | lit _ h1=>exact h1
  | nil=>rfl
  | slice=>rfl
  | agg=>simp[y68]at hok
  | ifc=>rfl):p:=h
theorem zD110{p:Prop} (h:p:=by
 all_goals try omega
 all_goals exact z03 func37 _ z1h ⟨rfl,rfl⟩):p:=h
theorem zD111{p:Prop} (h:p:=by
 repeat' first|refine z04 ?_|refine fk (fun _=>?_) fun _=>?_
 all_goals try omega
 exact z03 func91 _ z1h ⟨rfl,rfl⟩):p:=h
theorem zD112{p:Prop} (h:p:=by
 intro m hm
 rcases zAt.1 hm with hm|hm
 ·have:=hc m hm;omega
 ·simp at hm;subst hm;simp):p:=h
theorem zD113{p:Prop} (h:p:=by
 rintro(e|e|e)
 ·exact .inr (.inl e)
 ·exact .inl e
 ·exact .inr (.inr e)):p:=h
theorem zD114{p:Prop} (h:p:=by
 repeat' first|refine z04 ?_|refine fk (fun _=>?_) fun _=>?_
 all_goals try omega
 all_goals exact z03 func120 _ z1h ⟨rfl,rfl⟩):p:=h
theorem zD115{p:Prop} (h:p:=by
 simp only[List.nil_append]at e;subst e
 obtain⟨j,h3,h4,h5⟩:=h2
 exact⟨j,.inr ⟨h1,h3⟩,h4,(zbb hab hFb hla w j (hfb j h3)).2 h5⟩):p:=h
theorem zD116{p:Prop} (h:p:=by
 all_goals try omega
 all_goals rw[show(2*(r:Int)+1)=(((2*r+1):Nat):Int) by omega]
 all_goals exact z00 ih' rfl rfl):p:=h
theorem zD117{p:Prop} (h:p:=by
 repeat' first|refine z04 ?_|refine fk (fun _=>?_) fun _=>?_
 all_goals try omega
 all_goals exact z03 func16 _ z1h ⟨rfl,rfl⟩):p:=h
theorem zD118{p:Prop} (h:p:=by
 rw[zb3]at hx
 cases hc:cs[j]? with
 | none=>rw[hc]at hx;cases hx
 | some y=>rw[hc]at hx;simp at hx;subst hx;exact(hd j y u hc hu).alias hab):p:=h
theorem zD119{p:Prop} (h:p:=by
 repeat' first|(apply z7n;(exact z00 hk rfl rfl))|refine z04 ?_|refine fk (fun _=>?_) fun _=>?_
 all_goals try omega):p:=h
theorem zD120{p:Prop} (h:p:=by
 rintro(h|h|h)
 ·exact .inr (.inl h)
 ·exact .inl h
 ·exact .inr (.inr h)):p:=h
theorem zD121{p:Prop} (h:p:=by
 cases v with
 | slice a l c=>cases a <;> simp[Value.ownBlock]at hg;subst hg;exact(hk rfl _ rfl).2
 | _=>simp[Value.ownBlock]at hg):p:=h
theorem zD122{p:Prop} (h:p:=by
 rcases hr.2 with h2|⟨g,cap,cur,hv,hb,hg,rest⟩
 ·exact .inl h2
 ·exact .inr ⟨g,cap,cur,hv,hb,h.cell hg (by simp),rest⟩):p:=h
theorem zD123{p:Prop} (h:p:=by
 rw[←htake,List.getElem?_take]at hj
 split at hj
 ·simp only[World.cell?,hg]
  simpa using hj
 ·cases hj):p:=h
theorem zD124{p:Prop} (h:p:=by
 rcases hr.2 with h|⟨g',cap,cur,hv,_⟩
 ·rw[h.1]at hg;simp[z15]at hg
 ·subst hv;simp[z15]at hg;subst hg;exact ho _ rfl):p:=h
theorem zD125{p:Prop} (h:p:=by
 constructor
 ·intro h;exact⟨[],[],rfl,h,zn3 _⟩
 ·rintro⟨u,v,e,h1,h2⟩
  obtain⟨rfl,rfl⟩:=za9 e
  exact h1):p:=h
theorem zD126{p:Prop} (h:p:=by
 rw[zoe]
 split
 ·exact fun e=>h92 e.symm
 ·rename_i hc
  intro e;rw[e,hd]at hc;exact hc rfl):p:=h
theorem zD127{p:Prop} (h:p:=by
 rw[z9s q a j xq h1' h3 h4]at hr
 subst hr
 exact .d _ _ (hdd j (g xq.1,xq.2) m (by rw[zAd,h1'];rfl) h2).2.2):p:=h
theorem zD128{p:Prop} (h:p:=by
 rw[List.flatMap_cons,zfj,zAl,zAl,zAl,z3k,zAl]
 exact zd9 _ _ rfl (by decide)):p:=h
theorem zD129{p:Prop} (h:p:=by
 simp only[List.getD_cons_zero,List.getD_cons_succ]
 rw[e,zAz (by rw[zA7,zA3];exact⟨by omega,hv⟩)];rfl):p:=h
theorem zD130{p:Prop} (h:p:=by
 exact⟨fun m b hb=>hr.heap.blk m b (key m b hb),fun m1 m2 b1 b2 h1 h2=>hr.heap.inj m1 m2 b1 b2 (key _ _ h1) (key _ _ h2),hr.heap.lt⟩):p:=h
theorem zD131{p:Prop} (h:p:=by
 have h1:(te.bytes:Int)*a=((a.toNat*te.bytes:Nat):Int):=by rw[Int.natCast_mul,Int.toNat_of_nonneg h0,Int.mul_comm]
 rw[hib,h1];omega):p:=h
theorem zD132{p:Prop} (h:p:=by
 obtain⟨c1,q1,k1⟩:=liv m1 b1 h1 l1
 obtain⟨c2,q2,k2⟩:=liv m2 b2 h2 l2
 exact hr.heap.inj m1 m2 c1 c2 q1 q2 k1 k2 hne):p:=h
theorem zD133{p:Prop} (h:p:=by
 rcases this with h|h
 ·simp only[execOp,hv,Instr.loadAt,Instr.sureAddr];simp[h,ha]
 ·exact absurd hs h.2):p:=h
theorem zD134{p:Prop} (h:p:=by
 have:=hrr.2.1
 rw[zAm,zAm,this,Nat.min_eq_left hlen,Nat.min_eq_left (Nat.mul_le_mul_right _ hlen)]):p:=h
theorem zD135{p:Prop} (h:p:=by
 cases l with
 | nil=>rfl
 | cons s l =>
  obtain⟨_,_,h3,h4,_⟩:=hs
  have:=hb s (by simp)
  omega):p:=h
theorem zD136{p:Prop} (h:p:=by
 simp only[execOp,hv',(hr.ev hx.2.1).lit,hv]
 simp[Instr.indexAt,asIntOf,run_underlying (ht.slice hk),h0,h1,he.sizeOf,z3q,hkk]):p:=h
theorem zD137{p:Prop} (h:p:=by
 simp only[PV.saysL,Bool.or_eq_false_iff]at h
 simp only[List.set_cons_zero,PV.saysL,Bool.or_eq_false_iff]
 exact⟨hp,h.2⟩):p:=h
theorem zD138{p:Prop} (h:p:=by
 simp only[zAt]at hq
 rcases hq with hq|hq
 ·exact hg.agrees q hq
 ·exact z3c hz1 q hq):p:=h
theorem zD139{p:Prop} (h:p:=by
 obtain⟨b1,h1,l1⟩:=hm x bx hx lx
 obtain⟨b2,h2,l2⟩:=hm y by' hy ly
 exact h.inj x y b1 b2 h1 h2 l1 l2 hne g' hg'):p:=h
theorem zD140{p:Prop} (h:p:=by
 all_goals try omega
 all_goals rw[show((k+1:Nat):Int)-1-1=(k:Nat)-1 by omega]
 all_goals exact z00 ih' rfl rfl):p:=h
theorem zD141{p:Prop} (h:p:=by
 all_goals try (exfalso;first|omega|(simp at *;done)|(simp at *;omega))
 all_goals exact z03 func31 _ z1z ⟨rfl,rfl⟩):p:=h
theorem zD142{p:Prop} (h:p:=by
 repeat' first|(apply z7n;(exact z00 hk rfl rfl))|refine z04 ?_|fail
 all_goals try omega):p:=h
theorem zD143{p:Prop} (h:p:=by
 all_goals try omega
 all_goals refine z1d 36 1001 ?_
 all_goals exact z00 ih2 rfl rfl):p:=h
theorem zD144{p:Prop} (h:p:=by
 split
 ·rfl
 ·cases ad with
  | none=>rfl
  | some x=>cases x;simp[Addr.add]):p:=h
theorem zD145{p:Prop} (h:p:=by
 simp only[List.getElem?_cons_succ,List.getElem?_cons_zero,zAh]at hp hv
 subst hp hv;exact hz):p:=h
theorem zD146{p:Prop} (h:p:=by
 simp[execOp,ex',ey,Instr.lookup,run_underlying hm,Go.MapKept.run_getObj_map hg,hk.check w,h2,Result.andThen,hz0]):p:=h
