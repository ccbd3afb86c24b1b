/- A part. -/
import Derived.WalkKit
import Derived.RangeFuncRecord
import Derived.Laws.StructEq
import Derived.KernelRfl
import Derived.Great.BuildSlice
set_option maxRecDepth 1000000
set_option maxHeartbeats 20000000
theorem zA0:type_of% @List.getElem?_eq_getElem:=@List.getElem?_eq_getElem
theorem zA1:type_of% @List.getElem?_eq_some_iff:=@List.getElem?_eq_some_iff
theorem zA2:type_of% @List.mem_of_getElem?:=@List.mem_of_getElem?
theorem zA3:type_of% @decide_eq_true_eq:=@decide_eq_true_eq
theorem zA4:type_of% @List.length_map:=@List.length_map
theorem zA5:type_of% @decide_eq_false_iff_not:=@decide_eq_false_iff_not
theorem zA6:type_of% @Bool.not_eq_true':=@Bool.not_eq_true'
theorem zA7:type_of% @Bool.and_eq_true:=@Bool.and_eq_true
theorem zA8:type_of% @Bool.not_eq_false':=@Bool.not_eq_false'
theorem zA9:type_of% @Int.toNat_natCast:=@Int.toNat_natCast
theorem zAa:type_of% @List.length_append:=@List.length_append
theorem zAb:type_of% @List.getElem?_append_left:=@List.getElem?_append_left
theorem zAc:type_of% @List.mem_cons:=@List.mem_cons
theorem zAd:type_of% @List.getElem?_map:=@List.getElem?_map
theorem zAe:type_of% @Array.length_toList:=@Array.length_toList
theorem zAf:type_of% @Nat.zero_le:=@Nat.zero_le
theorem zAg:type_of% @List.getElem?_append_right:=@List.getElem?_append_right
theorem zAh:type_of% @Option.some.injEq:=@Option.some.injEq
theorem zAi:type_of% @decide_eq_true:=@decide_eq_true
theorem zAj:type_of% @Nat.le_refl:=@Nat.le_refl
theorem zAk:type_of% @List.length_cons:=@List.length_cons
theorem zAl:type_of% @List.append_assoc:=@List.append_assoc
theorem zAm:type_of% @List.length_take:=@List.length_take
theorem zAn:type_of% @List.length_singleton:=@List.length_singleton
theorem zAo:type_of% @decide_eq_false:=@decide_eq_false
theorem zAp:type_of% @List.getElem?_set_self:=@List.getElem?_set_self
theorem zAq:type_of% @List.mem_singleton:=@List.mem_singleton
theorem zAr:type_of% @List.length_replicate:=@List.length_replicate
theorem zAs:type_of% @List.drop_length:=@List.drop_length
theorem zAt:type_of% @List.mem_append:=@List.mem_append
theorem zAu:type_of% @Bool.or_eq_true:=@Bool.or_eq_true
theorem zAv:type_of% @List.getElem?_eq_none:=@List.getElem?_eq_none
theorem zAw:type_of% @List.getElem?_of_mem:=@List.getElem?_of_mem
theorem zAx:type_of% @Nat.lt_of_lt_of_le:=@Nat.lt_of_lt_of_le
theorem zAy:type_of% @if_neg:=@if_neg
theorem zAz:type_of% @if_pos:=@if_pos
theorem zD1{p:Prop} (h:p:=by
 skip
 refine z0r ?_
 refine z0d (z1o (fun m3_11:Int=>⟨128,[(0,PV.lift 1 (PV.d (D.slice (List.map Node.cs l)))),(3,PV.ptr (0,3) 0),(6,PV.ref (0,17)),(7,I IntKind.i64 (↑k1:Int)),(8,PV.ptr (0,8) 0),(11,I .i64 m3_11),(18,PV.lift 1 (PV.d (D.slice (List.map Node.cs l)))),(19,I IntKind.i64 (↑l.length:Int)),(20,I IntKind.i64 (↑k1:Int))],[(8,Blk.box (z1b (z5q ({ size:=4,bytes:=40,kind:=TK.struct,fields:=[(0,1),(1,1),(2,1),(3,1)],zero:=[Value.string { data:=#[] },Value.int IntKind.i64 0,Value.int IntKind.i64 0,Value.int IntKind.i64 0] }:TI).zero) 0 (List.map PV.d x1.cs))),(3,Blk.box (List.map PV.d c.cs)),(17,Blk.row 3 ({ size:=1,bytes:=8,kind:=TK.int IntKind.i64,fields:=[],zero:=[Value.int IntKind.i64 0] }:TI).size (List.map (fun x=>[z2g x]) (q1.set (↑k1:Int).toNat w1)))],H⟩) (fun m3_11:Int=> -1≤m3_11∧m3_11<k1) (fun m3_11:Int=>(m3_11+1).toNat) ?_ ((k1:Int)-1) (by omega)) rfl rfl
 intro m3_11 hk3 ih3
 by_cases hlt3:0≤m3_11
 case pos =>
  obtain⟨x3,hx3⟩:∃x,l[m3_11.toNat]? =some x:=⟨_,zA0 (by omega)⟩
  repeat' first|(apply z05;first|refine z0n ?_| (apply z0a;refine z02 (z23 (hzs _ _ (by simpa using hk1.2.1)) rfl rfl rfl) rfl rfl ?_)|(apply z0k;refine z02 (z4r rfl (by simp;omega)) rfl rfl ?_)|(apply z0t;first|refine z02 (z0z z1h) rfl rfl ?_| refine z02 (z2l z1h) rfl rfl ?_)|(apply z0f;refine z22 (w1+1) (by rfl) (by rfl) (by rfl) (by rfl) (hzs _ _ (by simpa using hk1.2.1)) (by rfl) (by rfl) (by rfl) (by rfl) ?_))|(apply z06;first|refine z0m ?_|(apply z3n;refine z3o [0,1,3,4,5,6,7,8,9,10,11,14,18,19,20,21,25,31,49,61,65,82,95,105,113,125,100500,100501] (by repeat' (first|exact z2n.nil|apply z2n.yes rfl|apply z2n.no)) (by repeat' (first|exact z13.nil|apply z13.old rfl|apply z13.gone|apply z13.new rfl)) ?_))|(apply z07;first|(refine zct (b:= ?_) hm25 ?_ ?_ ?_;rotate_left;(exact rfl);(exact rfl);exact rfl)|refine zgy 25 113 (fun b25=>?_) (fun hm25=>?_)|apply z08|apply z00|apply z04|apply z01|apply z2o|apply z03|refine z0h (fun _=>?_) (fun _=>?_)| refine z2q rfl (fun _=>?_) (fun _=>?_)|refine z0o ?_)|(apply z2m;first|(apply z1e;refine z97 [0,1,3,4,5,6,7,8,9,10,11,14,18,19,20,21,25,31,49,61,65,82,95,105,113,125,100500,100501] mix (by kernel_rfl) (by repeat' (first|exact z2n.nil|apply z2n.yes rfl|apply z2n.no)) (by repeat' (first|exact z13.nil|apply z13.old rfl|apply z13.gone|apply z13.new rfl)) ?_)|refine z2w ?_| (apply z0v;first|refine z0x z16 rfl rfl ?_| refine z0x z2f rfl rfl ?_)|(apply z0u;first|refine z0x z0i rfl rfl ?_| refine z0x (z5o rfl rfl) rfl rfl ?_)|(apply z1i;refine z0x (z1a rfl (z6h hx3)) rfl rfl ?_))
  all_goals try first|exact z0e func117 _ z2s ⟨_,rfl,⟨_,_,rfl⟩,rfl⟩|exact z0d (ih3 (m3_11-1) (by omega) (by omega)) rfl rfl|(first|exact z0d (ih1 ⟨k1+1,q1.set ((k1:Nat):Int).toNat (z1+1)⟩ (hst q1 (z1+1) hk1.2.1 hk1.2.2 (by omega) (by omega)) (by simp;omega)) rfl rfl|exact z0d (ih1 ⟨k1+1,(q1.set ((k1:Nat):Int).toNat w1).set ((k1:Nat):Int).toNat (w1+1)⟩ (hst _ (w1+1) (by simpa using hk1.2.1) hsw (by omega) (by omega)) (by simp;omega)) rfl rfl)|(exfalso;(try clear ih1);(try clear ih2);(try clear ih3);(try clear hm14);(try clear hm18);(try clear hm25);omega)|((fail_if_success (refine z0r ?_));exfalso;(try clear ih1);(try clear ih2);(try clear ih3);(try clear hm14);(try clear hm18);(try clear hm25);simp_all;done)
 case neg =>
  repeat' first|(apply z05;first|refine z0n ?_| (apply z0a;refine z02 (z23 (hzs _ _ (by simpa using hk1.2.1)) rfl rfl rfl) rfl rfl ?_)|(apply z0k;refine z02 (z4r rfl (by simp;omega)) rfl rfl ?_)|(apply z0t;refine z02 (z0z z1h) rfl rfl ?_)|(apply z0f;refine z22 (w1+1) (by rfl) (by rfl) (by rfl) (by rfl) (hzs _ _ (by simpa using hk1.2.1)) (by rfl) (by rfl) (by rfl) (by rfl) ?_))|(apply z06;first|refine z0m ?_|(apply z3n;refine z3o [0,1,3,4,5,6,7,8,9,10,11,14,18,19,20,21,25,31,49,61,65,82,95,105,113,125,100500,100501] (by repeat' (first|exact z2n.nil|apply z2n.yes rfl|apply z2n.no)) (by repeat' (first|exact z13.nil|apply z13.old rfl|apply z13.gone|apply z13.new rfl)) ?_))|(apply z07;first|apply z08|apply z00|apply z04|apply z01|apply z2o|apply z03|refine z0h (fun _=>?_) (fun _=>?_)| refine z0o ?_)|(apply z2m;refine z2w ?_)
  all_goals try (first|exact z0e func117 _ z2s ⟨_,rfl,⟨_,_,rfl⟩,rfl⟩|(first|exact z0d (ih1 ⟨k1+1,q1.set ((k1:Nat):Int).toNat (z1+1)⟩ (hst q1 (z1+1) hk1.2.1 hk1.2.2 (by omega) (by omega)) (by simp;omega)) rfl rfl|exact z0d (ih1 ⟨k1+1,(q1.set ((k1:Nat):Int).toNat w1).set ((k1:Nat):Int).toNat (w1+1)⟩ (hst _ (w1+1) (by simpa using hk1.2.1) hsw (by omega) (by omega)) (by simp;omega)) rfl rfl)|(exfalso;(try clear ih1);(try clear ih2);(try clear ih3);(try clear hm14);(try clear hm18);(try clear hm25);omega)|((fail_if_success (refine z0r ?_));exfalso;(try clear ih1);(try clear ih2);(try clear ih3);(try clear hm14);(try clear hm18);(try clear hm25);simp_all;done))):p:=h
theorem zD2{p:Prop} (h:p:=by
 repeat' first|(apply z05;first|refine z0n ?_| (apply z0a;first|refine z02 z16 rfl rfl ?_| refine z02 z1w rfl rfl ?_)|(apply z0c;refine z02 z0i rfl rfl ?_)|(apply z0k;refine z02 (z1a (ys:=l.map rgc) rfl (idx hx)) rfl rfl ?_)|(apply z0t;refine z02 (z2l (zo4 (by omega) (by omega))) rfl rfl ?_)|(apply z0s;refine z02 (z4a rfl) rfl rfl ?_)|(apply z0f;refine z25 ?_)|(apply z0l;refine z0b z2e ?_)|(apply z3c;refine z3b rfl ?_))|(apply z06;first|refine z0m ?_|apply z09|refine z1g ?_| refine z1p (fun _=>?_) fun _=>?_)|(apply z07;first|apply z08|apply z00|refine z15 ?_| apply z04|apply z01|refine z0h (fun _=>?_) (fun _=>?_)| refine z0o ?_)
 all_goals try omega
 have hch:(.d (.slice [[zbg f],[zbg (f-32)],[zbg (f-80)]]):PV)=.d (.slice (vs.map fun x=>[zbg x])):=by rw[hvs];rfl
 refine zwz 37 hch rfl ?_
 refine z0r ?_
 refine z0d (z1o (fun j:Nat=>⟨61,[(1,.d (.lit (.int .i32 c))),(2,B true),(7,I .i32 f),(9,.ptr (0,9) 0),(14,.d (rgs l)),(15,I .i64 l.length),(16,I .i64 (i:Nat)),(37,.d (.slice (vs.map fun x=>[zbg x]))),(38,I .i64 3),(39,I .i64 (j:Nat))],[(9,.box [.d (zbg r.1),.d (zbg r.2)])],H⟩) (fun j=>j≤3∧(vs.drop j).any Q=vs.any Q) (fun j=>3-j) ?_ 0 ⟨zAf _,rfl⟩) rfl rfl
 rintro j ⟨hj,hJ⟩ ihj
 by_cases hlj:j<3
 ·obtain⟨x,hv⟩:∃x,vs[j]? =some x:=⟨_,zA0 (by rw[hvs];simpa using hlj)⟩
  rw[drop_cons hv,List.any_cons]at hJ
  have hxb:f-80≤x∧x≤f:=by
   rw[hvs]at hv
   have:=zA2 hv
   simp at this;omega
  have hfx:=zbo x (by omega) (by omega)
  obtain⟨y,hy⟩:∃y,z65 x=y:=⟨_,rfl⟩
  rw[hy]at hfx
  have hQx:Q x=(decide (y=f)&&decide (r.1≤x)&&decide (x≤r.2)):=by rw[←hQ,←hy]
  by_cases hq:y=f∧r.1≤x∧x≤r.2
  ·rw[hQx,zAi hq.1,zAi hq.2.1,zAi hq.2.2]at hJ
   rw[rv3,hvs',hQ,←hJ]at hI
   simp only[Bool.and_self,Bool.true_or]at hI
   rw[←hI]
   repeat' first|(apply z05;first|refine z0n ?_| (apply z0a;first|refine z02 z16 rfl rfl ?_| refine z02 z2f rfl rfl ?_)|(apply z0c;refine z02 z0i rfl rfl ?_)|(apply z0k;refine z02 (z1a (ys:=vs.map fun x=>[zbg x]) rfl (idx hv)) rfl rfl ?_)|(apply z0t;refine z02 (z0z z1h) rfl rfl ?_)|(apply z0j;refine z29 hfx ?_))|(apply z06;first|refine z0m ?_|apply z09|refine z1g ?_| refine z1p (fun _=>?_) fun _=>?_)|(apply z07;first|apply z08|apply z00|refine z15 ?_| apply z04|apply z01|apply z03|refine z0h (fun _=>?_) (fun _=>?_)| refine z0o ?_)
   all_goals try omega
   all_goals exact z0e func178 _ z0p ⟨rfl,rfl⟩
  ·have hq0:(decide (y=f)&&decide (r.1≤x)&&decide (x≤r.2))=false:=by
    rw[Bool.and_assoc,Bool.and_eq_false_iff,Bool.and_eq_false_iff,zA5,zA5,zA5];omega
   rw[hQx,hq0,Bool.false_or]at hJ
   have ihj':=ihj (j+1) ⟨by omega,hJ⟩ (by omega)
   repeat' first|(apply z05;first|refine z0n ?_| (apply z0a;first|refine z02 z16 rfl rfl ?_| refine z02 z2f rfl rfl ?_)|(apply z0c;refine z02 z0i rfl rfl ?_)|(apply z0k;refine z02 (z1a (ys:=vs.map fun x=>[zbg x]) rfl (idx hv)) rfl rfl ?_)|(apply z0t;refine z02 (z0z z1h) rfl rfl ?_)|(apply z0j;refine z29 hfx ?_))|(apply z06;first|refine z0m ?_|apply z09|refine z1g ?_| refine z1p (fun _=>?_) fun _=>?_)|(apply z07;first|apply z08|apply z00|refine z15 ?_| apply z04|apply z01|apply z03|refine z0h (fun _=>?_) (fun _=>?_)| refine z0o ?_)
   all_goals try omega
   all_goals exact z0d ihj' rfl rfl
 ·obtain rfl:j=3:=by omega
  have hd:vs.drop 3=[]:=by rw[hvs];rfl
  rw[hd,List.any_nil]at hJ
  rw[rv3,hvs',hQ,←hJ,Bool.false_or]at hI
  have ih':=ih (i+1) ⟨by omega,hI⟩ (by omega)
  repeat' first|(apply z05;first|refine z0n ?_| (apply z0t;refine z02 (z0z z1h) rfl rfl ?_))|(apply z06;first|refine z0m ?_|apply z09)|(apply z07;first|apply z08|apply z00|refine z15 ?_| apply z03|refine z0o ?_)
  all_goals try omega
  all_goals exact z0d ih' rfl rfl):p:=h
theorem zD3{p:Prop} (h:p:=by
 intro k k1 ihk
 by_cases hk:k<L.length
 ·obtain⟨u,hu⟩:∃u,L[k]? =some u:=⟨_,zA0 hk⟩
  have hT:((L.take k).map okf).length=k:=by rw[zA4,zAm];omega
  have hall:((L.take k).map okf++L.drop k).length=L.length:=by rw[zAa,hT,List.length_drop];omega
  have hix:((L.take k).map okf++L.drop k)[((k:Nat):Int).toNat]? =some u:=by
   rw[zA9,zAg (by omega),hT,Nat.sub_self,List.getElem?_drop,Nat.add_zero];exact hu
  have hse:((L.take k).map okf++L.drop k).set ((k:Nat):Int).toNat (okf u)=(L.take (k+1)).map okf++L.drop (k+1):=by
   rw[zA9,List.set_append_right _ _ (by omega),hT,Nat.sub_self,drop_cons hu,List.set_cons_zero,z7x hu,List.map_append,zAl];rfl
  have hmap:(((L.take k).map okf++L.drop k).map uqc).length=L.length:=by rw[zA4];exact hall
  have ihk':=ihk (k+1) (by omega) (by omega)
  obtain⟨u1,u2,u3,u4⟩:=u
  by_cases hbad:u1=65533
  ·have hok:okf (u1,u2,u3,u4)=(u1,u2,u3,decide (u3=3)):=by simp[okf,hbad]
   rw[hok]at hse
   repeat' first|(apply z05;first|refine z0n ?_| (apply z0a;first|refine z02 (z23 (u:=zbg u1) hix rfl rfl rfl) rfl rfl ?_| refine z02 (z23 (u:=z2g u3) hix rfl rfl rfl) rfl rfl ?_)|(apply z0c;refine z02 (z4k rfl rfl) rfl rfl ?_)|(apply z0k;refine z02 (z7h rfl (by omega) (by omega) rfl) rfl rfl ?_)|(apply z0t;refine z02 (z0z z1h) rfl rfl ?_)|(apply z0f;refine z22 ((u1,u2,u3,decide (u3=3)):Uq) rfl rfl rfl rfl hix rfl rfl rfl hse ?_))|(apply z06;first|refine z0m ?_|apply z09|refine z1g ?_| refine z39 rfl rfl (fun _=>?_) fun _=>?_)|(apply z07;first|apply z08|apply z00|apply z04|apply z01|apply z03|refine z0h (fun _=>?_) (fun _=>?_)| refine z0o ?_)
   all_goals try omega
   all_goals exact z0d ihk' rfl rfl
  ·have hok:okf (u1,u2,u3,u4)=(u1,u2,u3,true):=by simp[okf,hbad]
   rw[hok]at hse
   repeat' first|(apply z05;first|refine z0n ?_| (apply z0a;first|refine z02 (z23 (u:=zbg u1) hix rfl rfl rfl) rfl rfl ?_| refine z02 (z23 (u:=z2g u3) hix rfl rfl rfl) rfl rfl ?_)|(apply z0c;refine z02 (z4k rfl rfl) rfl rfl ?_)|(apply z0k;refine z02 (z7h rfl (by omega) (by omega) rfl) rfl rfl ?_)|(apply z0t;refine z02 (z0z z1h) rfl rfl ?_)|(apply z0f;refine z22 ((u1,u2,u3,true):Uq) rfl rfl rfl rfl hix rfl rfl rfl hse ?_))|(apply z06;first|refine z0m ?_|apply z09|refine z1g ?_| refine z39 rfl rfl (fun _=>?_) fun _=>?_)|(apply z07;first|apply z08|apply z00|apply z04|apply z01|apply z03|refine z0h (fun _=>?_) (fun _=>?_)| refine z0o ?_)
   all_goals try omega
   all_goals exact z0d ihk' rfl rfl
 ·obtain rfl:k=L.length:=by omega
  rw[List.take_length,zAs,List.append_nil]
  repeat' first|(apply z05;refine z0n ?_)|(apply z06;first|refine z0m ?_|apply z09)|(apply z07;first|apply z08|apply z00|apply z04|apply z01|refine z0h (fun _=>?_) (fun _=>?_)| refine z0o ?_)
  all_goals try omega
  refine z1f 1000 rfl ?_
  exact z0e func104 _ z0p ⟨rfl,rfl⟩):p:=h
theorem zD4{p:Prop} (h:p:=by
 refine z0r ?_
 refine z0d (z1o (fun q:Nat=>⟨59,[(2,.ptr (0,2) 0),(48,.d (.slice (ks.map Cn.cs))),(49,I .i64 ks.length),(50,I .i64 (q:Nat))],[(2,.box (c.cs.map .d))],H⟩) (fun q=>q≤ks.length) (fun q=>ks.length-q) ?_ 0 (zAf _)) rfl rfl
 intro q hq ih2
 by_cases hlt:q<ks.length
 ·obtain⟨k,hk⟩:∃k,ks[q]? =some k:=⟨_,zA0 hlt⟩
  have i1:=ih k (zA2 hk)
  repeat' first|(apply z05;first|refine z0n ?_| (apply z0a;first|refine z02 z1r rfl rfl ?_| refine z02 z1w rfl rfl ?_| refine z02 z1y rfl rfl ?_)|(apply z0k;refine z02 (z1a rfl (idx hk)) rfl rfl ?_)|(apply z0t;refine z02 (z0z z1h) rfl rfl ?_)|(apply z0j;refine z29 i1 ?_)|(apply z0f;refine z25 ?_)|(apply z0l;refine z0b z2e ?_))|(apply z06;first|refine z0m ?_|apply z09)|(apply z07;first|apply z08|apply z00|refine z15 ?_| apply z04|apply z01|apply z03|refine z0h (fun _=>?_) (fun _=>?_)| refine z0o ?_)
  all_goals try (exfalso;first|omega|contradiction)
  all_goals exact z0d (ih2 (q+1) (by omega) (by omega)) rfl rfl
 ·repeat' (first|(apply z05;refine z0n ?_)|(apply z06;first|refine z0m ?_|apply z09)|(apply z07;first|apply z08|apply z00|apply z04|apply z01|refine z0h (fun _=>?_) (fun _=>?_)| refine z0o ?_))
  all_goals try omega
  all_goals exact z0e func34 _ z0p ⟨rfl,rfl⟩):p:=h
theorem zD5{p:Prop} (h:p:=by
 rw[zAi hgd.1,zAi hgd.2.1,zAi hgd.2.2,Bool.true_and,Bool.true_and,Bool.true_and]at i3
 rcases i2 with⟨rfl,rfl⟩|⟨hi,p,hp,rfl,hp0,hp1⟩
 ·repeat' (first|(apply z05;first|refine z0n ?_| (apply z0a;refine z02 z1w rfl rfl ?_)|(apply z0k;refine z02 (z1a (ys:=l.map rgc) rfl (idx hr)) rfl rfl ?_)|(apply z0t;refine z02 (z0z z1h) rfl rfl ?_)|(apply z0s;refine z02 (z0w rfl) rfl rfl ?_)|(apply z0f;refine z25 ?_)|(apply z0l;refine z0b z2e ?_))|(apply z06;first|refine z0m ?_|apply z09)|(apply z07;first|apply z08|apply z00|refine z1j ?_| refine z15 ?_| apply z04|apply z01|apply z2o|apply z03|refine z0h (fun _=>?_) (fun _=>?_)| refine z0o ?_)|(apply z2m;first|(apply z1e;refine z2c mix ?_)|refine z6d rfl rfl (by decide) ?_|refine z86 rfl rfl (by decide) ?_|refine z2w ?_| (apply z0v;refine z0x z16 rfl rfl ?_)|(apply z0u;refine z0x z0i rfl rfl ?_)|(refine z4h rfl rfl (fun hg=>?_) (fun hg=>?_) <;> simp only[hg] <;> (try simp only[zA3,zA5,zA6,zA8]at hg))))
  all_goals try omega
  all_goals exact z0d (ih (1,r.2+2) ⟨by simp only;omega,.inr ⟨by simp,r,hr,rfl,by omega,hgd.2.2⟩,i3⟩ (by simp only;omega)) rfl rfl
 ·have hp':l[((i:Int)-1).toNat]? =some p:=by rw[←hp];congr 1;omega
  repeat' first|(apply z05;first|refine z0n ?_| (apply z0a;refine z02 z1w rfl rfl ?_)|(apply z0k;refine z02 (z1a (ys:=l.map rgc) rfl (idx hr)) rfl rfl ?_)|(apply z0t;refine z02 (z0z z1h) rfl rfl ?_)|(apply z0s;refine z02 (z0w rfl) rfl rfl ?_)|(apply z0f;refine z25 ?_)|(apply z0l;refine z0b z2e ?_))|(apply z06;first|refine z0m ?_|apply z09)|(apply z07;first|apply z08|apply z00|refine z1j ?_| refine z15 ?_| apply z04|apply z01|apply z2o|apply z03|refine z0h (fun _=>?_) (fun _=>?_)| refine z0o ?_)|(apply z2m;first|(apply z1e;refine z2c mix ?_)|refine z6d rfl rfl (by decide) ?_|refine z86 rfl rfl (by decide) ?_|refine z2w ?_| (apply z0v;first|refine z0x z16 rfl rfl ?_| refine z0x z2f rfl rfl ?_)|(apply z0u;first|refine z0x z0i rfl rfl ?_| refine z0x (z5o rfl rfl) rfl rfl ?_)|(apply z1i;refine z0x (z1a (ys:=l.map rgc) rfl (z6h hp')) rfl rfl ?_)|(apply z3p;first|refine z0x (z0z (zo4 (by omega) (by omega))) rfl rfl ?_| refine z0x (z2l z1h) rfl rfl ?_)|(refine z4h rfl rfl (fun hg=>?_) (fun hg=>?_) <;> simp only[hg] <;> (try simp only[zA3,zA5,zA6,zA8]at hg)))
  all_goals try omega
  all_goals exact z0d (ih (i+1,r.2+2) ⟨by simp only;omega,.inr ⟨by simp,r,by simpa using hr,rfl,by omega,hgd.2.2⟩,i3⟩ (by simp only;omega)) rfl rfl):p:=h
theorem zD6{p:Prop} (h:p:=by
 intro⟨j,cr,rx,kv⟩ ⟨f1,f2,f3⟩ ih3
 simp only at f1 f2 f3 ih3⊢
 by_cases hj:j<rg.length
 ·obtain⟨y,hy⟩:∃y,rg[((j:Nat):Int).toNat]? =some y:=by rw[zA9];exact⟨_,zA0 hj⟩
  repeat' first|(apply z05;first|refine z0n ?_| (apply z0a;first|refine z02 (zeo hy rfl rfl) rfl rfl ?_| refine z02 z16 rfl rfl ?_| refine z02 z1y rfl rfl ?_)|(apply z0c;refine z02 z0i rfl rfl ?_)|(apply z0k;refine z02 (z4r rfl (by simp;omega)) rfl rfl ?_)|(apply z0t;first|refine z02 (z0z z1h) rfl rfl ?_| refine z02 (z2l z1h) rfl rfl ?_)|(apply z0s;refine z99 _ rfl ?_)|(apply z0f;refine z25 ?_)|(apply z0l;refine z0b z2e ?_)|(apply z3c;refine z3b rfl ?_))|(apply z06;first|refine z0m ?_|apply z09|refine z1g ?_| refine z7t rfl rfl (by decide) ?_|refine z1p (fun _=>?_) (fun _=>?_)| refine z39 rfl rfl (fun _=>?_) (fun _=>?_)|refine zci rfl rfl (fun _=>?_) fun _=>?_)|(apply z07;first|refine z7o 22 15 (fun b22=>?_) (fun hm22=>?_)|apply z08|apply z00|apply z04|apply z01|apply z03|refine z0h (fun _=>?_) (fun _=>?_)| refine z2q rfl (fun _=>?_) (fun _=>?_)|refine z0o ?_)
  all_goals try omega
  all_goals exact z0d (ih3 ⟨j+1,_,rx,kv⟩ ⟨(by simp only;omega),f2,f3⟩ (by simp only;omega)) rfl rfl
 ·repeat' (first|(apply z05;first|refine z0n ?_| (apply z0a;refine z02 z1y rfl rfl ?_)|(apply z0t;refine z02 (z2l z1h) rfl rfl ?_)|(apply z0s;refine z99 rx rfl ?_)|(apply z3c;refine z3b rfl ?_))|(apply z06;first|refine z0m ?_|apply z09)|(apply z07;first|apply z08|apply z00|apply z04|apply z01|apply z03|refine z0h (fun _=>?_) (fun _=>?_)| refine z2q rfl (fun _=>?_) (fun _=>?_)|refine z0o ?_))
  all_goals try omega
  all_goals first
   | exact z0d (ih2 ⟨m-1,rg,kv⟩ ⟨(by simp only;omega),(by simp only;omega),(by simp only;omega),g4,f3⟩ (by simp only;omega)) rfl rfl
   | (refine z4n 165 11 rfl rfl ?_;exact z0d (ih2 ⟨m-1,rg++[rx],kv⟩ ⟨(by simp only;omega),(by simp only;omega),(by simp only[zAa,zAk,List.length_nil];omega),(by intro x hx;rcases zAt.1 hx with hx|hx;exact g4 x hx;simp only[zAc,List.not_mem_nil,or_false]at hx;subst hx;exact f2),f3⟩ (by simp only;omega)) rfl rfl)):p:=h
theorem zD7{p:Prop} (h:p:=by
 all_goals try omega
 all_goals refine z3x 601 603 rfl (z14 (z14 (z14 hG1 (by simp)) (by simp)) (by simp)) (Or.inl rfl) rfl (Quiet.upd (Quiet.upd (Quiet.upd hQ1 rfl) rfl) rfl) ?_
 all_goals refine z3x 602 604 rfl (z14 (z14 (z14 (z14 hG2 (by simp)) (by simp)) (by simp)) (by simp)) (Or.inr rfl) rfl (Quiet.upd (Quiet.upd (Quiet.upd (Quiet.upd hQ2 rfl) rfl) rfl) rfl) ?_
 all_goals refine z3s 600 0 600 (raw:=bbx 603 604) rfl rfl rfl rfl rfl ?_
 all_goals refine z0e func189 _ (z1x rfl rfl rfl rfl rfl rfl) ⟨rfl,rfl⟩):p:=h
theorem zD8{p:Prop} (h:p:=by
 generalize hv:a.tmps.getD t undef=v at hp
 cases hp with
 | ptr _ _ g' hg' =>
  rw[hβ]at hg';simp at hg';subst hg'
  have hlen:cur.length=ti.size:=by rw[←hl,zA4,hs]
  have:=z27 (P:=P) hty g 0 cur w hlen (fun j v hj=>by
   rw[Nat.zero_add,cell_of_row w g j _ tt (0,0) hg];simpa using hj)
  rcases this with h'|h'
  ·have hv2:a.tmps[t]?.getD undef=.pointer (some ⟨g,0,none⟩):=by rw[←Array.getD_eq_getD_getElem?];exact hv
   simp[results,h,hv2,asAddr,h',ha]
  ·rw[ha]at h';cases h'.1):p:=h
theorem zD9{p:Prop} (h:p:=by
 all_goals try omega
 all_goals refine z3x 601 603 rfl (z14 (z14 (z14 hG1 (by simp)) (by simp)) (by simp)) (Or.inl rfl) rfl (Quiet.upd (Quiet.upd (Quiet.upd hQ1 rfl) rfl) rfl) ?_
 all_goals refine z3x 602 604 rfl (z14 (z14 (z14 (z14 hG2 (by simp)) (by simp)) (by simp)) (by simp)) (Or.inr rfl) rfl (Quiet.upd (Quiet.upd (Quiet.upd (Quiet.upd hQ2 rfl) rfl) rfl) rfl) ?_
 all_goals refine z3s 600 0 600 (raw:=bbx 603 604) rfl rfl rfl rfl rfl ?_
 all_goals refine z0e func172 _ (z1x rfl rfl rfl rfl rfl rfl) ⟨rfl,rfl⟩):p:=h
theorem zD10{p:Prop} (h:p:=by
 repeat' first|(apply z05;first|refine z0n ?_| (apply z0t;refine z02 (z0z (zo4 (by omega) (by omega))) rfl rfl ?_))|(apply z06;first|refine z0m ?_|apply z09|refine z1g ?_| refine z1p (fun _=>?_) fun _=>?_)|(apply z07;first|apply z08|apply z00|refine z15 ?_| apply z04|apply z01|apply z03|refine z0h (fun _=>?_) (fun _=>?_)| refine z38 rfl (fun _=>?_) fun _=>?_)
 all_goals try omega
 all_goals exact z0e func173 _ z0p ⟨rfl,rfl⟩):p:=h
theorem zD11{p:Prop} (h:p:=by
 repeat' first|(apply z05;first|refine z0n ?_| (apply z0t;refine z02 (z0z (zo4 (by omega) (by omega))) rfl rfl ?_))|(apply z06;first|refine z0m ?_|apply z09|refine z1g ?_| refine z1p (fun _=>?_) fun _=>?_)|(apply z07;first|apply z08|apply z00|refine z15 ?_| apply z04|apply z01|apply z03|refine z0h (fun _=>?_) (fun _=>?_)| refine z38 rfl (fun _=>?_) fun _=>?_)
 all_goals try omega
 all_goals exact z0e func193 _ z0p ⟨rfl,rfl⟩):p:=h
theorem zD12{p:Prop} (h:p:=by
 refine⟨fun m c hm=>?_,fun m1 m2 c1 c2 e1 e2 l1 l2 hn g hg'=>?_,h2.lt⟩
 ·cases hc:c.live with
  | false=>cases c <;> first|(simp[Blk.live]at hc;done)|exact .gone _
  | true =>
   rcases key m c hm hc with⟨rfl,rfl⟩|⟨_,_,h3⟩
   ·rw[hsame];exact h2.blk _ _ hrow
   ·exact h2.blk m c h3
 ·rcases key m1 c1 e1 l1 with⟨rfl,rfl⟩|⟨n1,n1',h3⟩
  ·rcases key m2 c2 e2 l2 with⟨rfl,rfl⟩|⟨n2,n2',h4⟩
   ·exact absurd rfl hn
   ·rw[hsame]at hg'
    exact h2.inj (0,y) m2 _ c2 hrow h4 l1 l2 (Ne.symm n2') g hg'
  ·rcases key m2 c2 e2 l2 with⟨rfl,rfl⟩|⟨n2,n2',h4⟩
   ·rw[hsame]
    exact h2.inj m1 (0,y) c1 _ h3 hrow l1 l2 n1' g hg'
   ·exact h2.inj m1 m2 c1 c2 h3 h4 l1 l2 hn g hg'):p:=h
theorem zD13{p:Prop} (h:p:=by
 obtain rfl:=h1 (by decide);obtain⟨rfl,rfl⟩:=h2 (by decide);obtain rfl:=h3 (by decide)
 repeat' first|(apply z05;first|refine z0n ?_| (apply z0a;refine z02 z16 rfl rfl ?_)|(apply z0c;refine z02 z0i rfl rfl ?_)|(apply z0t;refine z02 (z9z rfl) rfl rfl ?_)|(apply z0s;first|refine z02 (zdx rfl) rfl rfl ?_| refine z02 (z0w rfl) rfl rfl ?_| refine z02 (z4a rfl) rfl rfl ?_)|(apply z0f;refine z25 ?_)|(apply z0l;refine z0b z2e ?_)|(apply z18;refine z0b z1m ?_)|(apply z1n;refine z2y ?_))|(apply z06;first|refine z0m ?_|apply z09|refine z1g ?_| refine z1p (fun _=>?_) fun _=>?_)|(apply z07;first|apply z08|apply z00|refine z1j ?_| refine z15 ?_| apply z04|apply z01|apply z03)
 all_goals first
  | omega
  | exact z0e func60 _ z0p ⟨rfl,rfl⟩
  | (exfalso;simp_all;done)):p:=h
theorem zD14{p:Prop} (h:p:=by
 obtain rfl:t=-1:=by omega
 rw[zf2,zAz (by decide)]
 repeat' first|(apply z05;first|refine z0n ?_| (apply z0a;refine z02 z16 rfl rfl ?_)|(apply z0c;refine z02 z0i rfl rfl ?_)|(apply z0s;refine z02 (z4a rfl) rfl rfl ?_)|(apply z18;refine z0b z1m ?_))|(apply z06;first|refine z0m ?_|apply z09)|(apply z07;first|apply z08|apply z00|refine z1j ?_| apply z04|apply z01|apply z2o|apply z03|refine z0h (fun _=>?_) fun _=>?_)|(apply z2m;first|(apply z1e;refine z2c mix ?_)|refine z2w ?_| (apply z0v;first|refine z0x z1r rfl rfl ?_| refine z0x z16 rfl rfl ?_)|(apply z0u;refine z0x z0i rfl rfl ?_)|(apply z1s;first|refine z5b hx ?_| refine z5b hy ?_))
 all_goals try omega
 all_goals exact z0e func35 _ z0p ⟨rfl,rfl⟩):p:=h
theorem zD15{p:Prop} (h:p:=by
 repeat' first|(apply z05;first|refine z0n ?_| (apply z0a;first|refine z02 z1r rfl rfl ?_| refine z02 z16 rfl rfl ?_)|(apply z0c;refine z02 z0i rfl rfl ?_)|(apply z0s;refine z02 (z4a rfl) rfl rfl ?_)|(apply z18;refine z0b z1m ?_))|(apply z06;first|refine z0m ?_|apply z09)|(apply z07;first|apply z08|apply z00|refine z1j ?_| apply z04|apply z01|apply z2o|apply z03|refine z0h (fun _=>?_) fun _=>?_)|(apply z2m;first|(apply z1e;refine z2c mix ?_)|refine z2w ?_| (apply z0v;first|refine z0x z1r rfl rfl ?_| refine z0x z16 rfl rfl ?_)|(apply z0u;refine z0x z0i rfl rfl ?_)|(apply z1s;first|refine z5b hx ?_| refine z5b hy ?_))
 all_goals try omega
 all_goals exact z0e func35 _ z0p ⟨rfl,rfl⟩):p:=h
theorem zD16{p:Prop} (h:p:=by
 rw[his]
 simp only[madeCells,Array.getElem?_toList,Array.getElem?_map]
 rw[Array.getElem?_range]
 simp only[hlt,if_true,Option.map_some,hzsz]
 have hmod:(i'*te.size+j) % te.size=j:=by rw[Nat.add_comm,Nat.add_mul_mod_self_right];exact Nat.mod_eq_of_lt hj
 rw[hmod,←hzc,Array.getElem?_toList,getElem!_pos z.cells j (by omega),Array.getElem?_eq_getElem (by omega)]):p:=h
theorem zD17{p:Prop} (h:p:=by
 repeat' first|(apply z05;first|refine z0n ?_| (apply z0a;first|refine z02 z1r rfl rfl ?_| refine z02 z16 rfl rfl ?_)|(apply z0c;refine z02 z0i rfl rfl ?_)|(apply z0j;refine z29 hx ?_)|(apply z0f;refine z25 ?_)|(apply z0l;refine z0b z2e ?_)|(apply z18;refine z0b z43 ?_)|refine z4x rfl rfl (by decide) ?_)|(apply z06;first|refine z0m ?_|apply z09)|(apply z07;first|apply z08|apply z00|apply z04|apply z01|apply z2o|apply z03|refine z0h (fun _=>?_) fun _=>?_)|(apply z2m;first|refine z2w ?_| (apply z0v;first|refine z0x z1r rfl rfl ?_| refine z0x z16 rfl rfl ?_)|(apply z0u;refine z0x z0i rfl rfl ?_))
 all_goals try omega
 all_goals exact z0e func32 _ z0p ⟨rfl,rfl⟩):p:=h
theorem zD18{p:Prop} (h:p:=by
 refine z0y fun H=>?_
 refine z0g func69 (by kernel_rfl) rfl (by simp) ?_
 dsimp only[f69]
 repeat' first|(apply z05;first|refine z0n ?_| (apply z0a;first|refine z02 z16 rfl rfl ?_| refine z02 z2f rfl rfl ?_)|(apply z0c;refine z02 z0i rfl rfl ?_)|(apply z0k;refine z02 (z1a rfl (z6h hv)) rfl rfl ?_)|(apply z0j;refine z29 hx ?_)|(apply z18;refine z0b z1m ?_))|(apply z06;first|refine z0m ?_|apply z09)|(apply z07;first|apply z08|apply z00|refine z1j ?_)
 all_goals first
  | exact z0e func69 _ z0p ⟨rfl,rfl⟩
  | omega):p:=h
theorem zD19{p:Prop} (h:p:=by
 all_goals exact z0e func188 _ (z1x rfl rfl rfl rfl rfl rfl) ⟨by first|rfl|(dsimp only[ptc];rw[←ho2];rfl)|(dsimp only[ptc];rw[←ho1];rfl)|(dsimp only[ptc];rw[←ho1,←ho2];rfl),rfl⟩):p:=h
theorem zD20{p:Prop} (h:p:=by
 repeat' first|(apply z05;first|refine z0n ?_| (apply z0a;refine z02 z16 rfl rfl ?_)|(apply z0c;refine z02 z0i rfl rfl ?_)|(apply z0t;refine z02 (zi9 z1h) rfl rfl ?_)|(apply z0s;first|refine z02 zcr rfl rfl ?_| refine z02 z84 rfl rfl ?_))|(apply z06;first|refine z0m ?_|apply z09)|(apply z07;first|apply z08|apply z00|apply z04|apply z01|apply z03|refine z0h (fun _=>?_) (fun _=>?_)| refine z38 rfl (fun _=>?_) (fun _=>?_)|refine z0o ?_)
 all_goals try omega
 exact z0e func150 _ z0p ⟨rfl,rfl⟩):p:=h
theorem zD21{p:Prop} (h:p:=by
 refine⟨fun m c hc=>?_,fun m1 m2 c1 c2 e1 e2 l1 l2 hn=>?_,hr.heap.lt⟩
 ·by_cases hm:m=(md+1,ms)
  ·subst hm
   rw[hgone]at hc;simp at hc;subst hc;exact .gone _
  ·rw[hne m hm];exact(hr.heap.blk m c hc).reβ (md+1,ms) hne (hold m c hc)
 ·have hg1:∀m c,z19 (push hp up) m=some c→c.live=true→m≠(md+1,ms):=by
   rintro m c hc hl rfl
   rw[hgone]at hc;simp at hc;subst hc;cases hl
  rw[hne m1 (hg1 m1 c1 e1 l1),hne m2 (hg1 m2 c2 e2 l2)]
  exact hr.heap.inj m1 m2 c1 c2 e1 e2 l1 l2 hn):p:=h
theorem zD22{p:Prop} (h:p:=by
 repeat' first|(apply z05;first|refine z0n ?_| (apply z0a;refine z02 z1r rfl rfl ?_)|(apply z0j;first|refine za1 c1 rfl rfl (by decide) ?_|refine z29 c2 ?_| refine z29 c4 ?_)|(apply z0f;refine z25 ?_)|(apply z0l;refine z0b z2e ?_)|(apply z18;refine z0b z43 ?_))|(apply z06;first|refine z0m ?_|apply z09)|(apply z07;first|apply z08|apply z00|refine z15 ?_| apply z04|apply z01|apply z03|refine z0h (fun _=>?_) fun _=>?_)
 all_goals try omega
 refine z0e func122 _ z0p ⟨?_,rfl⟩
 simp[hp]):p:=h
theorem zD23{p:Prop} (h:p:=by
 all_goals try omega
 all_goals exact z0d ih' rfl rfl):p:=h
theorem zD24{p:Prop} (h:p:=by
 refine⟨_,.slice (some ⟨w.heap.size,0,none⟩) a.toNat a.toNat,_,z69 β d (.slice (some ⟨w.heap.size,0,none⟩) a.toNat a.toNat),_,?_,.inl rfl,?_,hE,z3a _ _ _⟩
 ·simp only[execOp,(hr.ev hx).lit,(hr.ev hy).lit]
  simp[hrun]
 ·have hp':=PR.ref (β:=z69 β d (.slice (some ⟨w.heap.size,0,none⟩) a.toNat a.toNat)) (w:=w.alloc (.cells (madeCells z.cells (a.toNat*i.size)) e)) (own:=fun g=>own g∨g=w.heap.size) (0,d)
  rw[z2d]at hp'
  exact hin.put (dst:=some d) (p:=.ref (0,d)) (by simpa[St.fits]using hd) hp'):p:=h
theorem zD25{p:Prop} (h:p:=by
 repeat' first|(apply z05;first|refine z0n ?_| (apply z0a;refine z02 z1r rfl rfl ?_)|(apply z0j;first|refine z29 hsh ?_| refine z29 hpo ?_)|(apply z18;refine z0b z1m ?_))|(apply z06;first|refine z0m ?_|apply z09|refine z1g ?_| refine z1p (fun _=>?_) fun _=>?_)|(apply z07;first|apply z08|apply z00|refine z1j ?_| refine z15 ?_| apply z04|apply z01|apply z03|refine z0h (fun _=>?_) fun _=>?_)
 all_goals try omega
 all_goals exact z0e func107 _ z0p ⟨rfl,rfl⟩):p:=h
theorem zD26{p:Prop} (h:p:=by
 simp only[execOp]
 have:(Array.map (fun x:Nat × Operand=>match x with|(i,x)=>(i,a.eval x)) l.toArray)=l.toArray.map fun x=>(x.1,a.eval x.2):=rfl
 rw[this,Sem.run_bind,hrun]
 rfl):p:=h
theorem zD27{p:Prop} (h:p:=by
 repeat' first|(apply z05;first|refine z0n ?_| (apply z0a;refine z02 z16 rfl rfl ?_)|(apply z0c;refine z02 z0i rfl rfl ?_)|(apply z0t;refine z02 (zi9 z1h) rfl rfl ?_)|(apply z0s;first|refine z02 zcr rfl rfl ?_| refine z02 z84 rfl rfl ?_))|(apply z06;first|refine z0m ?_|apply z09)|(apply z07;first|apply z08|apply z00|apply z04|apply z01|refine z0h (fun _=>?_) (fun _=>?_)| refine z0o ?_)
 all_goals try omega
 exact z0e func136 _ z0p ⟨rfl,rfl⟩):p:=h
theorem zD28{p:Prop} (h:p:=by
 all_goals first
  | omega
  | exact z0e func60 _ z0p ⟨rfl,rfl⟩
  | (exfalso;simp_all;done)):p:=h
theorem zD29{p:Prop} (h:p:=by
 repeat' first|(apply z05;first|refine z0n ?_| (apply z0a;refine z02 z16 rfl rfl ?_)|(apply z0c;refine z02 z0i rfl rfl ?_)|(apply z0s;refine z02 (z0w rfl) rfl rfl ?_)|(apply z18;refine z0b z1m ?_))|(apply z06;first|refine z0m ?_|apply z09|refine z1g ?_| refine z1p (fun _=>?_) fun _=>?_)|(apply z07;first|apply z08|apply z00|refine z1j ?_)
 all_goals try omega
 all_goals exact z0e func96 _ z0p ⟨by rw[hv],rfl⟩):p:=h
theorem zD30{p:Prop} (h:p:=by
 cases hr:Region.ready .any ops.toArray listed with
 | nil=>rfl
 | cons x xs =>
  rw[hr]at hi
  have hlt:tt % (x::xs).length<(x::xs).length:=Nat.mod_lt _ (by simp)
  simp at hi
  simp at hlt
  omega):p:=h
theorem zD31{p:Prop} (h:p:=by
 have hw:RowKit.Below w.heap.size w { w with drawn:=w.drawn+1 }:=⟨rfl,rfl,rfl,zAj _,fun _ _=>rfl⟩
 have hdone:=key β own a { w with drawn:=w.drawn+1 } (hrep.below hw) b hb hk hn cs
 refine(hdone.ext (Below.ext hw own)).of_steps (.one ?_)
 have:=stepR_region_draw (P:=P) (b:=b) (a:={ a with defers:=b.defers }) (k:=k) (cs:=cs) (w:=w) (ops:=ops.toArray) (id:=id)
 refine this.trans ?_
 simp only[Region.schedule,hmix,Bool.true_or,if_true]
 rfl):p:=h
theorem zD32{p:Prop} (h:p:=by
 repeat' first|(apply z05;first|refine z0n ?_| (apply z0a;refine z02 z1r rfl rfl ?_)|(apply z0j;first|refine z29 hs ?_| refine z4g hk rfl (bkT hT) (by decide) ?_|refine z29 hf ?_| refine z4g hh rfl (bkT hT) (by decide) ?_)|(apply z18;refine z0b z43 ?_))|(apply z06;first|refine z0m ?_|apply z09)|(apply z07;first|apply z08|apply z00)
 all_goals first
  | exact z0e func14 _ z0p ⟨rfl,rfl⟩
  | (exfalso;simp_all;done)):p:=h
theorem zD33{p:Prop} (h:p:=by
 repeat' first|(apply z05;first|refine z0n ?_| (apply z0a;refine z02 z16 rfl rfl ?_)|(apply z0c;refine z02 z0i rfl rfl ?_))|(apply z06;first|refine z0m ?_|apply z09)|(apply z07;first|apply z08|apply z00|refine z1j ?_| refine z15 ?_| apply z04|apply z01|refine z0h (fun _=>?_) (fun _=>?_)| refine z0o ?_)
 all_goals try omega
 all_goals (refine z0e func170 _ z0p ⟨?_,rfl⟩;rw[hvl];simp_all <;> omega)):p:=h
theorem zD34{p:Prop} (h:p:=by
 intro hp h1 q1
 have qq:∀x,z3u (0,x) hp=true→za0 (push hp H) (0,x):=fun x q e t b he hb=>by
  obtain rfl:e=0:=by simp at he;omega
  exact z4o q hb
 have:=zkd s (push hp H) h1 (qq 901 q1)
 rw[zen]at this
 exact this):p:=h
theorem zD35{p:Prop} (h:p:=by
 show PV.saysL (j,x) (PV.liftL 0 cs)=PV.saysL (j,x) cs
 have h0:∀p:PV,p.lift 0=p:=by
  intro p
  refine PV.rec (motive_1:=fun p=>p.lift 0=p) (motive_2:=fun ps=>PV.liftL 0 ps=ps) ?_ ?_ ?_ ?_ ?_ ?_ ?_ ?_ ?_ ?_ ?_ ?_ ?_ ?_ ?_ p <;> intros <;> simp_all [PV.lift,PV.liftL]
 have:∀cs,PV.liftL 0 cs=cs:=by
  intro cs;induction cs with
  | nil=>rfl
  | cons p r ih=>simp[PV.liftL,h0,ih]
 rw[this]):p:=h
theorem zD36{p:Prop} (h:p:=by
 repeat' first|(apply z05;first|refine z0n ?_| (apply z0a;refine z02 z16 rfl rfl ?_)|(apply z0c;refine z02 z0i rfl rfl ?_)|(apply z18;refine z0b z1m ?_))|(apply z06;first|refine z0m ?_|apply z09|refine z1g ?_| refine z39 rfl rfl (fun _=>?_) fun _=>?_)|(apply z07;first|apply z08|apply z00)
 all_goals try omega
 all_goals exact z0e func171 _ z0p ⟨rfl,rfl⟩):p:=h
theorem zD37{p:Prop} (h:p:=by
 obtain rfl:k=n / 64+1:=by omega
 rw[zvz]
 repeat' first|(apply z05;refine z0n ?_)|(apply z06;first|refine z0m ?_|apply z09)|(apply z07;first|apply z08|apply z00|apply z04|apply z01|apply z2o|refine z0h (fun _=>?_) (fun _=>?_)| refine z0o ?_)|(apply z2m;refine z2w ?_)
 all_goals try omega
 all_goals exact zcc func183 _ (z4j rfl) ⟨rfl,rfl⟩):p:=h
theorem zD38{p:Prop} (h:p:=by
 have:=z27 (P:=P) ht g (i*1+0) [c] w (by simp[hs]) (fun j v hv=>by
  cases j with
  | zero=>simp at hv;subst hv;simpa using hcell i c hc
  | succ j=>simp at hv)
 simp only[Nat.mul_one,Nat.add_zero]at this hv'
 rcases this with h|h
 ·exact⟨c,by simp only[execOp,hv',Instr.loadAt,Instr.sureAddr];simp[h,ha],hpr⟩
 ·exact absurd hs h.2):p:=h
theorem zD39{p:Prop} (h:p:=by
 have hbr:=hr.heap.blk (md+1,ms) _ hlook
 refine HR.install (d:=y) hr0 hfr.1 (Ext.refl w own) hr.heap.lt (v:=β (md+1,ms)) (b:=raw.lift (md+1)) (fun m c hm hc hmy g hg=>?_) (hbr.reβ (0,y) (z3h β y _) (Blk.lift_says _ _ _))
 obtain⟨h1,h2⟩:=key m c hm hc
 exact⟨rfl,(hr.heap.blk m c h2).block_lt hc hg,fun _=>hr.heap.inj m (md+1,ms) c _ h2 hlook hc hl' h1 g hg⟩):p:=h
theorem zD40{p:Prop} (h:p:=by
 obtain rfl:k=l.length:=by omega
 rw[zAs,z5a]at hi
 repeat' first|(apply z05;refine z0n ?_)|(apply z06;first|refine z0m ?_|apply z09)|(apply z07;first|apply z08|apply z00|apply z04|apply z01|refine z0h (fun _=>?_) (fun _=>?_)| refine z0o ?_)
 all_goals try omega
 all_goals exact z0e func110 _ z0p ⟨by rw[←hi],rfl⟩):p:=h
theorem zD41{p:Prop} (h:p:=by
 obtain⟨i,u,z,hi,hu,hz,hs,hb,hk',_⟩:=h.get
 rw[hk]at hk'
 cases u <;> simp[TK.ofD]at hk' <;> simp_all):p:=h
theorem zD42{p:Prop} (h:p:=by
 obtain⟨j,hj⟩:=zAw hv
 have hjl:=(zA1.1 hj).1
 rw[hlen]at hjl
 have h2:=hget (j / te.size) (j % te.size) ((Nat.div_lt_iff_lt_mul (by omega)).2 hjl) (Nat.mod_lt _ (by omega))
 rw[Nat.div_add_mod' j te.size,hj]at h2
 rw[List.all_eq_true]at hz
 exact hz v (zA2 h2.symm)):p:=h
theorem zD43{p:Prop} (h:p:=by
 have hp:=PR.ref (β:=z69 β d v') (w:=w') (own:=fun g=>own g∨v'.ownBlock=some g) (0,d)
 rw[z2d]at hp
 exact hin.put (dst:=some d) (p:=.ref (0,d)) (by simpa[St.fits]using hd) hp):p:=h
theorem zD44{p:Prop} (h:p:=by
 rw[zAs]at hd
 repeat' first|(apply z05;refine z0n ?_)|(apply z06;first|refine z0m ?_|apply z09)|(apply z07;first|apply z08|apply z00|apply z04|apply z01|refine z0h (fun _=>?_) (fun _=>?_)| refine z0o ?_)
 all_goals try omega
 all_goals exact z0e func35 _ z0p ⟨by rw[←hd];rfl,rfl⟩):p:=h
theorem zD45{p:Prop} (h:p:=by
 refine zl4 (i:=j) (X:=rlX n S) (pre:=[(3,.box ([z2g op,z2g (i:Nat),z2g mx,rgs [],D.slice ([Rx.mk op' mn' mx' rs' ks'].map rxc)].map PV.d))]) rfl (by rw[z2k];omega) ?_ (fun s b hs hb=>?_) ihj' rfl
 ·rw[Ab.look,zAz rfl]
 ·rw[Ab.look,zAy (Ne.symm hs)];exact hb):p:=h
theorem zD46{p:Prop} (h:p:=by
 refine z1u ?_
 repeat' first|(apply z05;first|refine z0n ?_| (apply z0t;refine z02 (z0z z1h) rfl rfl ?_))|(apply z06;first|refine z0m ?_|apply z09)|(apply z07;first|apply z08|apply z00|refine z15 ?_| refine z0o ?_)
 all_goals try omega
 all_goals exact z0e func74 _ z2s ⟨zvg (by omega) (by omega),rfl⟩):p:=h
theorem zD47{p:Prop} (h:p:=by
 rw[zA4,zAa,zAn,show(((P.length+1:Nat):Int)-1).toNat=P.length by omega];simp):p:=h
theorem zD48{p:Prop} (h:p:=by
 rw[←i2]
 repeat' first|(apply z05;first|refine z0n ?_| (apply z0a;refine z02 z1y rfl rfl ?_)|(apply z0f;refine z25 ?_))|(apply z06;first|refine z0m ?_|apply z09)|(apply z07;first|apply z08|apply z00|apply z04|apply z01|refine z0h (fun _=>?_) (fun _=>?_)| refine z0o ?_)
 all_goals exact zD9):p:=h
theorem zD49{p:Prop} (h:p:=by
 repeat' first|(apply z05;first|refine z0n ?_| (apply z0t;refine z02 (z0z z1h) rfl rfl ?_))|(apply z06;first|refine z0m ?_|apply z09)
 all_goals exact zD23):p:=h
theorem zD50{p:Prop} (h:p:=by
 refine⟨hgrow.os,hgrow.tape,hgrow.output,hgrow.size,fun b hb hno=>hgrow.block b hb fun e=>hno (ho b e.symm),fun b hb hno=>?_⟩
 rintro(h|h)
 ·exact hno h
 ·rcases hwhere with e|e
  ·rw[e]at h;exact hno (ho b h)
  ·rw[e]at h;simp at h;omega):p:=h
theorem zD51{p:Prop} (h:p:=by
 have h1:=(hlist i).2 hx
 rw[Array.getD_eq_getD_getElem?,Array.getElem?_eq_getElem (by omega)]at h1 hun
 simp at h1 hun
 rw[h1]at hun;cases hun):p:=h
theorem zD52{p:Prop} (h:p:=by
 refine z1u ?_
 repeat' first|(apply z05;refine z0n ?_)|(apply z06;first|refine z0m ?_|apply z09)|(apply z07;first|apply z08|apply z00|refine z15 ?_| refine z0o ?_)
 all_goals try omega
 all_goals first
  | exact z0e func58 _ z2s ⟨zvg (by omega) (by omega),rfl⟩):p:=h
theorem zD53{p:Prop} (h:p:=by
 have hm:t∈(#[22,22]:Array TypeId):=Array.mem_of_getElem? ht
 simp only[List.mem_toArray,zAc,List.not_mem_nil,or_false]at hm
 rcases hm with rfl|rfl
 ·exact(show prog.wantsStandIn 22=false by kernel_rfl)
 ·exact(show prog.wantsStandIn 22=false by kernel_rfl)):p:=h
theorem zD54{p:Prop} (h:p:=by
 all_goals refine z1u ?_
 all_goals repeat' first|(apply z05;refine z0n ?_)|(apply z06;first|refine z0m ?_|apply z09)|(apply z07;first|apply z08|apply z00|refine z15 ?_| refine z0o ?_)
 all_goals first
  | omega
  | exact z0e func75 _ z0p ⟨rfl,rfl⟩):p:=h
theorem zD55{p:Prop} (h:p:=by
 all_goals try omega
 all_goals ((repeat rw[z3l]);first|exact z0e func184 _ (z11 rfl rfl rfl rfl rfl rfl rfl) ⟨rfl,rfl⟩|exact z0e func184 _ z2s ⟨rfl,rfl⟩|exact z0e func184 _ z0p ⟨rfl,rfl⟩|exact z0e func184 _ (z4i rfl rfl rfl rfl) ⟨rfl,rfl⟩)):p:=h
theorem zD56{p:Prop} (h:p:=by
 have hb:∃c,fn.body=some c:=by cases hc:fn.body with|none=>rw[hc]at hbody;cases hbody|some c=>exact⟨c,rfl⟩
 obtain⟨c,hb⟩:=hb
 have hname':¬(fn.name= "runtime.NumGoroutine"):=by simpa using hname
 simp[execOp,resolve,hv,Deferred.ofValue,invoke,callFunc,hfn,hname',hb]):p:=h
theorem zD57{p:Prop} (h:p:=by
 rw[PV.liftL_get]at hx
 cases hc:cs[j]? with
 | none=>simp[hc]at hx
 | some y=>rw[hc]at hx;simp at hx;subst hx;exact ih j y v hc hv):p:=h
theorem zD58{p:Prop} (h:p:=by
 rw[zpq,←i3]
 have:(decide (a≤r.1)&&decide (r.1≤r.2)&&decide (r.2≤1114111))=false:=by
  rw[←Bool.decide_and,←Bool.decide_and,zA5]
  exact fun h=>hgd ⟨h.1.1,h.1.2,h.2⟩
 rw[this];rfl):p:=h
theorem zD59{p:Prop} (h:p:=by
 cases hv:vns e with
 | false=>simp
 | true =>
  rw[(y07 (by decide)).1 e hv]
  simp only[Bool.true_eq_false,if_false]
  by_cases hp:64<pn e
  ·rw[zAz hp,zAz (by omega)]
  ·rw[zAy hp,zAy (by omega)]):p:=h
theorem zD60{p:Prop} (h:p:=by
 obtain⟨h1,h2⟩:=hr
 refine⟨h1,?_⟩
 rcases h2 with h2|⟨g,cap,cur,hv,hb,hg,rest⟩
 ·exact .inl h2
 ·subst hv
  refine .inr ⟨g,cap,cur,rfl,hb,?_,rest⟩
  rw[(hk rfl g rfl).1];exact hg):p:=h
theorem zD61{p:Prop} (h:p:=by
 exact⟨fun m b hb=>hr.heap.blk m b (key m b hb),fun m1 m2 b1 b2 h1 h2=>hr.heap.inj m1 m2 b1 b2 (key _ _ h1) (key _ _ h2),hr.heap.lt⟩):p:=h
theorem zD62{p:Prop} (h:p:=by
 rw[hβ]at hbr⊢
 cases hbr with
 | lp g _ _ _ _ _ _ _ _ tmps' df' ho' hg' hl hd =>
  rw[hg]at hg';simp at hg'
  obtain⟨rfl,rfl⟩:=hg'
  exact .lp L n' f' ps asg body _ state' pend' tmps df ho hhere hl fun t p hp=>(hd t p hp).mono hE):p:=h
theorem zD63{p:Prop} (h:p:=by
 all_goals try omega
 all_goals exact z0d (ih (q+1) (by omega) (by omega)) rfl rfl):p:=h
theorem zD64{p:Prop} (h:p:=by
 simp only[execOp,hv',(hr.ev hx.2.1).lit,hv]
 simp[Instr.indexAt,asIntOf,run_underlying (ht.slice hk),h0,h1,he.sizeOf,z4t,hkk]):p:=h
theorem zD65{p:Prop} (h:p:=by
 by_cases hji:j=i
 ·subst hji;simp[hsz,hilt]
 ·rw[getD_set_ne false (Ne.symm hji),hlist];simp[hji]):p:=h
theorem zD66{p:Prop} (h:p:=by
 all_goals try omega
 all_goals exact z0e func123 _ z0p ⟨rfl,rfl⟩):p:=h
theorem zD67{p:Prop} (h:p:=by
 all_goals try omega
 all_goals first
  | (refine z0e func110 _ z0p ⟨?_,rfl⟩;rw[←hi,zAz (by simp_all)])
  | exact z0d (ih (k+1) ⟨by omega,by rw[←hi,zAy (by simp_all)]⟩ (by omega)) rfl rfl):p:=h
theorem zD68{p:Prop} (h:p:=by
 rw[hr]at hrun
 simp only[Result.ok.injEq]at hrun
 right;rw[←hrun.1];rfl):p:=h
theorem zD69{p:Prop} (h:p:=by
 rintro(h1|⟨h1,h2⟩)
 ·exact .inl h1
 ·exact .inr ⟨by omega,h2⟩):p:=h
theorem zD70{p:Prop} (h:p:=by
 have e0:(!ls.any (zsf c))=true:=by
  rw[zA6,List.any_eq_false]
  intro t ht2
  have:=hin t ht2
  simp only[zsf,zAu,zA3,not_or]
  omega
 rw[e0]at hf;exact hf):p:=h
theorem zD71{p:Prop} (h:p:=by
 rw[zd9]at hp
 cases hc:cs[j]? with
 | none=>rw[hc]at hp;simp at hp
 | some c=>rw[hc]at hp;simp at hp;subst hp;exact(hd j c v hc hv).ren):p:=h
theorem zD72{p:Prop} (h:p:=by
 all_goals try omega
 all_goals exact z0e func135 _ (z4i rfl rfl rfl rfl) ⟨rfl,rfl⟩):p:=h
theorem zD73{p:Prop} (h:p:=by
 rw[zgb]at hp
 cases hc:cs[j]? with
 | none=>rw[hc]at hp;simp at hp
 | some c=>rw[hc]at hp;simp at hp;subst hp;exact PR.frz hD (hd j c v hc hv)):p:=h
theorem zD74{p:Prop} (h:p:=by
 all_goals try omega
 all_goals first
  | exact z0e func30 _ z0p ⟨rfl,rfl⟩):p:=h
theorem zD75{p:Prop} (h:p:=by
 unfold zbf at hn⊢
 cases hm:R.rnd with
 | none=>rw[hm]at hn;exact hn
 | some m =>
  rw[hm]at hn
  obtain⟨hv,L,h1,h2⟩:=hn
  exact⟨hv,L,h1,(hout m hv).trans h2⟩):p:=h
theorem zD76{p:Prop} (h:p:=by
 have:decide (i<k)=decide (i<k+1):=by rw[decide_eq_decide];omega
 rw[this]):p:=h
theorem zD77{p:Prop} (h:p:=by
 first
  | (rw[zAi (p:=g.mn≤((up c i).length:Int)) (by assumption)];rfl)
  | (rw[zAo (p:=g.mn≤((up c i).length:Int)) (by assumption)];rfl)):p:=h
theorem zD78{p:Prop} (h:p:=by
 rw[hq]at hz;simp at hz;subst hz
 cases j with
 | zero =>
  simp at hu;subst hu
  rw[List.getD,hq]
  exact .lit _ rfl
 | succ j=>simp at hu):p:=h
theorem zD79{p:Prop} (h:p:=by
 simp only at hp'
 rw[z6r]at hp'
 cases hq':look tm t with
 | none=>rw[hq']at hp';cases hp'
 | some q=>rw[hq']at hp';simp at hp';subst hp';exact(hr.tm t q hq').drop hne):p:=h
theorem zD80{p:Prop} (h:p:=by
 refine z3s 700 1 3 (raw:=.box [.ref (0,5000)]) rfl rfl (z14 v3 (by simp)) rfl rfl ?_
 refine zg5 rfl ⟨rfl,?_⟩
 rw[←hV,z3g,zd2 (by simp),z3g,z8o (m:=(1,3)) hb3]):p:=h
theorem zD81{p:Prop} (h:p:=by
 intro m c hm hc
 rw[z6l,z3q]at hm
 by_cases e:m=(md+1,ms)
 ·rw[zAz e]at hm;simp[atF,Blk.lift]at hm;subst hm;cases hc
 ·rw[zAy e]at hm;exact⟨e,hm⟩):p:=h
theorem zD82{p:Prop} (h:p:=by
 intro i' j hi' hj
 have hlt:i'*te.size+j<a.toNat*te.size:=by
  have:(i'+1)*te.size≤a.toNat*te.size:=Nat.mul_le_mul_right _ hi'
  rw[Nat.add_mul]at this;omega
 exact zD16):p:=h
theorem zD83{p:Prop} (h:p:=by
 refine .d _ _ (.agg _ _ (by simpa using hl) h1 fun j x v hx hv=>?_)
 have:=hd j (.d x) v (by rw[zAd,hx];rfl) hv
 cases this with|d _ _ h=>exact h):p:=h
theorem zD84{p:Prop} (h:p:=by
 all_goals try omega
 all_goals exact z0e func32 _ z0p ⟨rfl,rfl⟩):p:=h
theorem zD85{p:Prop} (h:p:=by
 exact hr'.put (dst:=some d) (p:=p) (v:=v) (by simp[St.fits,hd]) hpv):p:=h
theorem zD86{p:Prop} (h:p:=by
 all_goals try (exfalso;first|omega|(simp at *;done))
 all_goals first
  | ((repeat rw[z3l]);exact z0e func105 _ (z1x rfl rfl rfl rfl rfl rfl) ⟨rfl,rfl⟩)):p:=h
theorem zD87{p:Prop} (h:p:=by
 rintro e W2 ⟨he,own2,hE⟩
 exact⟨_,he,zmu (P:=prog) (tb:=4) (by kernel_rfl) (by kernel_rfl) hW2 hE rfl rfl (by kernel_rfl) (by kernel_rfl)⟩):p:=h
theorem zD88{p:Prop} (h:p:=by
 simp only[List.nil_append]at e;subst e
 obtain⟨j,h3,h4,h5⟩:=h2
 exact⟨j,.inr ⟨h1,h3⟩,h4,(zbn hab hFb hla w j (hfb j h3)).2 h5⟩):p:=h
theorem zD89{p:Prop} (h:p:=by
 rw[zbp]at hx
 cases hc:cs[j]? with
 | none=>rw[hc]at hx;cases hx
 | some y=>rw[hc]at hx;simp at hx;subst hx;exact(hd j y u hc hu).alias hab):p:=h
theorem zD90{p:Prop} (h:p:=by
 cases v with
 | slice a l c=>cases a <;> simp[Value.ownBlock]at hg;subst hg;exact(hk rfl _ rfl).2
 | _=>simp[Value.ownBlock]at hg):p:=h
theorem zD91{p:Prop} (h:p:=by
 rcases hr.2 with h2|⟨g,cap,cur,hv,hb,hg,rest⟩
 ·exact .inl h2
 ·exact .inr ⟨g,cap,cur,hv,hb,h.cell hg (by simp),rest⟩):p:=h
theorem zD92{p:Prop} (h:p:=by
 rw[←htake,List.getElem?_take]at hj
 split at hj
 ·simp only[World.cell?,hg]
  simpa using hj
 ·cases hj):p:=h
theorem zD93{p:Prop} (h:p:=by
 by_cases h2:5000≤s
 ·rw[zAz h2,zAz h2,List.getElem?_set_ne (by omega)]
 ·rw[zAy h2,zAy h2]):p:=h
theorem zD94{p:Prop} (h:p:=by
 all_goals try omega
 all_goals exact z0d ihn' rfl rfl):p:=h
theorem zD95{p:Prop} (h:p:=by
 rcases hr.2 with h|⟨g',cap,cur,hv,_⟩
 ·rw[h.1]at hg;simp[z2h]at hg
 ·subst hv;simp[z2h]at hg;subst hg;exact ho _ rfl):p:=h
theorem zD96{p:Prop} (h:p:=by
 constructor
 ·intro h;exact⟨[],[],rfl,h,zm4 _⟩
 ·rintro⟨u,v,e,h1,h2⟩
  obtain⟨rfl,rfl⟩:=zb1 e
  exact h1):p:=h
theorem zD97{p:Prop} (h:p:=by
 all_goals try omega
 all_goals first
  | ((repeat rw[z3l]);exact z0e func174 _ (z1x rfl rfl rfl rfl rfl rfl) ⟨rfl,rfl⟩)):p:=h
theorem zD98{p:Prop} (h:p:=by
 simp only[List.getD_cons_zero,List.getD_cons_succ]
 rw[e,zAz (by rw[zA7,zA3];exact⟨by omega,hv⟩)];rfl):p:=h
theorem zD99{p:Prop} (h:p:=by
 have h1:(te.bytes:Int)*a=((a.toNat*te.bytes:Nat):Int):=by rw[Int.natCast_mul,Int.toNat_of_nonneg h0,Int.mul_comm]
 rw[hib,h1];omega):p:=h
theorem zD100{p:Prop} (h:p:=by
 rcases this with h|h
 ·simp only[execOp,hv,Instr.loadAt,Instr.sureAddr];simp[h,ha]
 ·exact absurd hs h.2):p:=h
theorem zD101{p:Prop} (h:p:=by
 simp only[zAt]at hq
 rcases hq with hq|hq
 ·exact hg.agrees q hq
 ·exact z45 hz1 q hq):p:=h
theorem zD102{p:Prop} (h:p:=by
 simp only[zAt]at hq
 rcases hq with hq|hq
 ·exact hg.agrees q hq
 ·exact z45 hz0 q hq):p:=h
theorem zD103{p:Prop} (h:p:=by
 all_goals try omega
 all_goals exact z0e func123 _ z0p ⟨congrArg (fun b=>RV.v (B b)) hfin,rfl⟩):p:=h
theorem zD104{p:Prop} (h:p:=by
 subst hxs
 refine⟨_,_,?_,(RowKit.Below.refl _ _).alloc (zAj _) _,.d _ _ (zgl hr.heap.lt hcr hvl e)⟩
 exact zD26):p:=h
theorem zD105{p:Prop} (h:p:=by
 obtain⟨b1,h1,l1⟩:=hm x bx hx lx
 obtain⟨b2,h2,l2⟩:=hm y by' hy ly
 exact h.inj x y b1 b2 h1 h2 l1 l2 hne g' hg'):p:=h
theorem zD106{p:Prop} (h:p:=by
 all_goals try omega
 all_goals (refine z0e func170 _ z0p ⟨?_,rfl⟩;rw[hvl];simp_all <;> omega)):p:=h
theorem zD107{p:Prop} (h:p:=by
 rcases hown.2 with h|⟨g,cap,cur,hv,_⟩
 ·rw[h.2];exact⟨_,_,h.1⟩
 ·exact⟨_,_,hv⟩):p:=h
theorem zD108{p:Prop} (h:p:=by
 simp at hx;subst hx
 exact⟨h5,by simp only;omega,h3,h4,.inl rfl,by simp only;omega,by simp only;omega⟩):p:=h
