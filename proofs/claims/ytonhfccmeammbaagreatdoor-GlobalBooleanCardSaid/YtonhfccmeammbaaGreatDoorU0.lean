/- Blocks of steps that end a branch. -/
import Derived.WalkKit
import Derived.RangeFuncRecord
import Derived.Laws.StructEq
import Derived.KernelRfl
import Derived.Great.BuildSlice
set_option maxRecDepth 1000000
set_option maxHeartbeats 20000000
theorem zA0:type_of% @List.getElem?_eq_getElem:=@List.getElem?_eq_getElem
theorem zA1:type_of% @List.getElem?_eq_some_iff:=@List.getElem?_eq_some_iff
theorem zA2:type_of% @List.mem_of_getElem?:=@List.mem_of_getElem?
theorem zA3:type_of% @decide_eq_true_eq:=@decide_eq_true_eq
theorem zA4:type_of% @List.length_map:=@List.length_map
theorem zA5:type_of% @decide_eq_false_iff_not:=@decide_eq_false_iff_not
theorem zA6:type_of% @Bool.not_eq_true':=@Bool.not_eq_true'
theorem zA7:type_of% @Bool.and_eq_true:=@Bool.and_eq_true
theorem zA8:type_of% @Bool.not_eq_false':=@Bool.not_eq_false'
theorem zA9:type_of% @Int.toNat_natCast:=@Int.toNat_natCast
theorem zAa:type_of% @List.length_append:=@List.length_append
theorem zAb:type_of% @List.getElem?_append_left:=@List.getElem?_append_left
theorem zAc:type_of% @List.mem_cons:=@List.mem_cons
theorem zAd:type_of% @List.getElem?_map:=@List.getElem?_map
theorem zAe:type_of% @Array.length_toList:=@Array.length_toList
theorem zAf:type_of% @Nat.zero_le:=@Nat.zero_le
theorem zAg:type_of% @List.getElem?_append_right:=@List.getElem?_append_right
theorem zAh:type_of% @Option.some.injEq:=@Option.some.injEq
theorem zAi:type_of% @decide_eq_true:=@decide_eq_true
theorem zAj:type_of% @Nat.le_refl:=@Nat.le_refl
theorem zAk:type_of% @List.length_cons:=@List.length_cons
theorem zAl:type_of% @List.append_assoc:=@List.append_assoc
theorem zAm:type_of% @List.length_take:=@List.length_take
theorem zAn:type_of% @decide_eq_false:=@decide_eq_false
theorem zAo:type_of% @List.getElem?_set_self:=@List.getElem?_set_self
theorem zAp:type_of% @List.mem_singleton:=@List.mem_singleton
theorem zAq:type_of% @List.length_replicate:=@List.length_replicate
theorem zAr:type_of% @List.drop_length:=@List.drop_length
theorem zAs:type_of% @List.mem_append:=@List.mem_append
theorem zAt:type_of% @Bool.or_eq_true:=@Bool.or_eq_true
theorem zAu:type_of% @List.getElem?_eq_none:=@List.getElem?_eq_none
theorem zAv:type_of% @List.getElem?_of_mem:=@List.getElem?_of_mem
theorem zAw:type_of% @Nat.lt_of_lt_of_le:=@Nat.lt_of_lt_of_le
theorem zAx:type_of% @if_neg:=@if_neg
theorem zAy:type_of% @if_pos:=@if_pos
theorem zD1 {p:Prop} (h:p:=by
 skip
 refine z0t ?_
 refine z0e (z1v (fun m3_11:Int=>⟨128,[(0,PV.lift 1 (PV.d (D.slice (List.map Node.cs l)))),(3,PV.ptr (0,3) 0),(6,PV.ref (0,17)),(7,I IntKind.i64 (↑k1:Int)),(8,PV.ptr (0,8) 0),(11,I .i64 m3_11),(18,PV.lift 1 (PV.d (D.slice (List.map Node.cs l)))),(19,I IntKind.i64 (↑l.length:Int)),(20,I IntKind.i64 (↑k1:Int))],[(8,Blk.box (z11 (z4u ({ size:=4,bytes:=40,kind:=TK.struct,fields:=[(0,1),(1,1),(2,1),(3,1)],zero:=[Value.string { data:=#[] },Value.int IntKind.i64 0,Value.int IntKind.i64 0,Value.int IntKind.i64 0] }:TI).zero) 0 (List.map PV.d x1.cs))),(3,Blk.box (List.map PV.d c.cs)),(17,Blk.row 3 ({ size:=1,bytes:=8,kind:=TK.int IntKind.i64,fields:=[],zero:=[Value.int IntKind.i64 0] }:TI).size (List.map (fun x=>[z3c x]) (q1.set (↑k1:Int).toNat w1)))],H⟩) (fun m3_11:Int=> -1≤m3_11∧m3_11<k1) (fun m3_11:Int=>(m3_11+1).toNat) ?_ ((k1:Int)-1) (by omega)) rfl rfl
 intro m3_11 hk3 ih3
 by_cases hlt3:0≤m3_11
 case pos =>
  obtain⟨x3,hx3⟩:∃ x,l[m3_11.toNat]? =some x:=⟨_,zA0 (by omega)⟩
  repeat' (first|(apply z04;(first|refine z0l ?_| (apply z0a;(refine z02 (z2e (hzs _ _ (by simpa using hk1.2.1)) rfl rfl rfl) rfl rfl ?_))|(apply z0n;(refine z02 (z25 rfl (by omega) (by simp;omega) rfl) rfl rfl ?_))|(apply z0z;(first|refine z02 (z14 z1p) rfl rfl ?_| refine z02 (z2q z1p) rfl rfl ?_))|(apply z0f;(refine z27 (w1+1) (by rfl) (by rfl) (by rfl) (by rfl) (hzs _ _ (by simpa using hk1.2.1)) (by rfl) (by rfl) (by rfl) (by rfl) ?_))))|(apply z05;(first|refine z0k ?_|(apply z34;refine z36 [0,1,3,4,5,6,7,8,9,10,11,14,18,19,20,21,25,31,49,61,65,82,95,105,113,125,100500,100501] (by repeat' (first|exact z2b.nil|apply z2b.yes rfl|apply z2b.no)) (by repeat' (first|exact z0p.nil|apply z0p.old rfl|apply z0p.gone|apply z0p.new rfl)) ?_)))|(apply z06;(first|(refine zb0 (b:= ?_) hm25 ?_ ?_ ?_;rotate_left;(exact rfl);(exact rfl);(exact rfl))|refine zes 25 113 (fun b25=>?_) (fun hm25=>?_)|apply z07|apply z00|apply z08|apply z01|apply z2z|apply z03|refine z0h (fun _=>?_) (fun _=>?_)| refine z2i rfl (fun _=>?_) (fun _=>?_)|refine z0o ?_))|(apply z2v;(first|(apply z1l;refine z7i [0,1,3,4,5,6,7,8,9,10,11,14,18,19,20,21,25,31,49,61,65,82,95,105,113,125,100500,100501] mix (by kernel_rfl) (by repeat' (first|exact z2b.nil|apply z2b.yes rfl|apply z2b.no)) (by repeat' (first|exact z0p.nil|apply z0p.old rfl|apply z0p.gone|apply z0p.new rfl)) ?_)|refine z3h ?_| (apply z0u;(first|refine z0w z18 rfl rfl ?_| refine z0w z2p rfl rfl ?_))|(apply z0q;(first|refine z0w z1a rfl rfl ?_| refine z0w (z65 rfl rfl) rfl rfl ?_))|(apply z1n;(refine z0w (z1o rfl (z6u hx3)) rfl rfl ?_)))))
  all_goals try (first|exact z0c Tryz.func117 _ z2m ⟨_,rfl,⟨_,_,rfl⟩,rfl⟩|exact z0e (ih3 (m3_11-1) (by omega) (by omega)) rfl rfl|(first|exact z0e (ih1 ⟨k1+1,q1.set ((k1:Nat):Int).toNat (z1+1)⟩ (hst q1 (z1+1) hk1.2.1 hk1.2.2 (by omega) (by omega)) (by simp;omega)) rfl rfl|exact z0e (ih1 ⟨k1+1,(q1.set ((k1:Nat):Int).toNat w1).set ((k1:Nat):Int).toNat (w1+1)⟩ (hst _ (w1+1) (by simpa using hk1.2.1) hsw (by omega) (by omega)) (by simp;omega)) rfl rfl)|(exfalso;(try clear ih1);(try clear ih2);(try clear ih3);(try clear hm14);(try clear hm18);(try clear hm25);omega)|((fail_if_success (refine z0t ?_));exfalso;(try clear ih1);(try clear ih2);(try clear ih3);(try clear hm14);(try clear hm18);(try clear hm25);simp_all;done))
 case neg =>
  repeat' (first|(apply z04;(first|refine z0l ?_| (apply z0a;(refine z02 (z2e (hzs _ _ (by simpa using hk1.2.1)) rfl rfl rfl) rfl rfl ?_))|(apply z0n;(refine z02 (z25 rfl (by omega) (by simp;omega) rfl) rfl rfl ?_))|(apply z0z;(refine z02 (z14 z1p) rfl rfl ?_))|(apply z0f;(refine z27 (w1+1) (by rfl) (by rfl) (by rfl) (by rfl) (hzs _ _ (by simpa using hk1.2.1)) (by rfl) (by rfl) (by rfl) (by rfl) ?_))))|(apply z05;(first|refine z0k ?_|(apply z34;refine z36 [0,1,3,4,5,6,7,8,9,10,11,14,18,19,20,21,25,31,49,61,65,82,95,105,113,125,100500,100501] (by repeat' (first|exact z2b.nil|apply z2b.yes rfl|apply z2b.no)) (by repeat' (first|exact z0p.nil|apply z0p.old rfl|apply z0p.gone|apply z0p.new rfl)) ?_)))|(apply z06;(first|apply z07|apply z00|apply z08|apply z01|apply z2z|apply z03|refine z0h (fun _=>?_) (fun _=>?_)| refine z0o ?_))|(apply z2v;(refine z3h ?_)))
  all_goals try (first|exact z0c Tryz.func117 _ z2m ⟨_,rfl,⟨_,_,rfl⟩,rfl⟩|(first|exact z0e (ih1 ⟨k1+1,q1.set ((k1:Nat):Int).toNat (z1+1)⟩ (hst q1 (z1+1) hk1.2.1 hk1.2.2 (by omega) (by omega)) (by simp;omega)) rfl rfl|exact z0e (ih1 ⟨k1+1,(q1.set ((k1:Nat):Int).toNat w1).set ((k1:Nat):Int).toNat (w1+1)⟩ (hst _ (w1+1) (by simpa using hk1.2.1) hsw (by omega) (by omega)) (by simp;omega)) rfl rfl)|(exfalso;(try clear ih1);(try clear ih2);(try clear ih3);(try clear hm14);(try clear hm18);(try clear hm25);omega)|((fail_if_success (refine z0t ?_));exfalso;(try clear ih1);(try clear ih2);(try clear ih3);(try clear hm14);(try clear hm18);(try clear hm25);simp_all;done))):p:=h
theorem zD2 {p:Prop} (h:p:=by
 intro ⟨j,cr,rx,kv⟩ ⟨f1,f2,f3⟩ ih3
 simp only at f1 f2 f3 ih3 ⊢
 by_cases hj:j<rg.length
 · obtain⟨y,hy⟩:∃ y,rg[((j:Nat):Int).toNat]? =some y:=by rw[zA9];exact⟨_,zA0 hj⟩
   repeat' (first|(apply z04;(first|refine z0l ?_| (apply z0a;(first|refine z02 (zc7 hy rfl rfl) rfl rfl ?_| refine z02 z18 rfl rfl ?_| refine z02 z2a rfl rfl ?_))|(apply z0d;(refine z02 z1a rfl rfl ?_))|(apply z0n;(refine z02 (z25 rfl (by omega) (by simp;omega) rfl) rfl rfl ?_))|(apply z0z;(first|refine z02 (z14 z1p) rfl rfl ?_| refine z02 (z2q z1p) rfl rfl ?_))|(apply z0x;(refine z97 _ rfl ?_))|(apply z0f;(refine z2d ?_))|(apply z0i;(refine z0b z1e ?_))|(apply z3t;(refine z3s rfl ?_))))|(apply z05;(first|refine z0k ?_|apply z09|refine z1m ?_| refine z9j rfl rfl (by decide) ?_|refine z1t (fun _=>?_) (fun _=>?_)| refine z3v rfl rfl (fun _=>?_) (fun _=>?_)|refine zao rfl rfl (fun _=>?_) (fun _=>?_)))|(apply z06;(first|refine z6h 22 15 (fun b22=>?_) (fun hm22=>?_)|apply z07|apply z00|apply z08|apply z01|apply z03|refine z0h (fun _=>?_) (fun _=>?_)| refine z2i rfl (fun _=>?_) (fun _=>?_)|refine z0o ?_)))
   all_goals try (exfalso;omega)
   all_goals exact z0e (ih3 ⟨j+1,_,rx,kv⟩ ⟨(by simp only;omega),f2,f3⟩ (by simp only;omega)) rfl rfl
 · repeat' (first|(apply z04;(first|refine z0l ?_| (apply z0a;(refine z02 z2a rfl rfl ?_))|(apply z0z;(refine z02 (z2q z1p) rfl rfl ?_))|(apply z0x;(refine z97 rx rfl ?_))|(apply z3t;(refine z3s rfl ?_))))|(apply z05;(first|refine z0k ?_|apply z09))|(apply z06;(first|apply z07|apply z00|apply z08|apply z01|apply z03|refine z0h (fun _=>?_) (fun _=>?_)| refine z2i rfl (fun _=>?_) (fun _=>?_)|refine z0o ?_)))
   all_goals try (exfalso;omega)
   all_goals first
    | exact z0e (ih2 ⟨m-1,rg,kv⟩ ⟨(by simp only;omega),(by simp only;omega),(by simp only;omega),g4,f3⟩ (by simp only;omega)) rfl rfl
    | (refine z4x 165 11 rfl rfl ?_;exact z0e (ih2 ⟨m-1,rg++[rx],kv⟩ ⟨(by simp only;omega),(by simp only;omega),(by simp only[zAa,zAk,List.length_nil];omega),(by intro x hx;rcases zAs.1 hx with hx|hx;exact g4 x hx;simp only[zAc,List.not_mem_nil,or_false] at hx;subst hx;exact f2),f3⟩ (by simp only;omega)) rfl rfl)):p:=h
theorem zD3 {p:Prop} (h:p:=by
 all_goals try (exfalso;omega)
 all_goals refine z3e 601 603 rfl (z0s (z0s (z0s hG1 (by simp)) (by simp)) (by simp)) (Or.inl rfl) rfl (Quiet.upd (Quiet.upd (Quiet.upd hQ1 rfl) rfl) rfl) ?_
 all_goals refine z3e 602 604 rfl (z0s (z0s (z0s (z0s hG2 (by simp)) (by simp)) (by simp)) (by simp)) (Or.inr rfl) rfl (Quiet.upd (Quiet.upd (Quiet.upd (Quiet.upd hQ2 rfl) rfl) rfl) rfl) ?_
 all_goals refine z39 600 0 600 (raw:=bbx 603 604) rfl rfl rfl rfl rfl ?_
 all_goals refine z0c Tryz.func189 _ (z1s rfl rfl rfl rfl rfl rfl) ⟨rfl,rfl⟩):p:=h
theorem zD4 {p:Prop} (h:p:=by
 generalize hv:a.tmps.getD t undef=v at hp
 cases hp with
 | ptr _ _ g' hg' =>
  rw[hβ] at hg';simp at hg';subst hg'
  have hlen:cur.length=ti.size:=by rw[← hl,zA4,hs]
  have:=z1z (P:=P) hty g 0 cur w hlen (fun j v hj=>by
   rw[Nat.zero_add,cell_of_row w g j _ tt (0,0) hg];simpa using hj)
  rcases this with h'|h'
  · have hv2:a.tmps[t]?.getD undef=.pointer (some ⟨g,0,none⟩):=by rw[← Array.getD_eq_getD_getElem?];exact hv
    simp[results,h,hv2,asAddr,h',ha]
  · rw[ha] at h';cases h'.1):p:=h
theorem zD5 {p:Prop} (h:p:=by
 all_goals try (exfalso;omega)
 all_goals refine z3e 601 603 rfl (z0s (z0s (z0s hG1 (by simp)) (by simp)) (by simp)) (Or.inl rfl) rfl (Quiet.upd (Quiet.upd (Quiet.upd hQ1 rfl) rfl) rfl) ?_
 all_goals refine z3e 602 604 rfl (z0s (z0s (z0s (z0s hG2 (by simp)) (by simp)) (by simp)) (by simp)) (Or.inr rfl) rfl (Quiet.upd (Quiet.upd (Quiet.upd (Quiet.upd hQ2 rfl) rfl) rfl) rfl) ?_
 all_goals refine z39 600 0 600 (raw:=bbx 603 604) rfl rfl rfl rfl rfl ?_
 all_goals refine z0c Tryz.func172 _ (z1s rfl rfl rfl rfl rfl rfl) ⟨rfl,rfl⟩):p:=h
theorem zD6 {p:Prop} (h:p:=by
 repeat' (first|(apply z04;(first|refine z0l ?_| (apply z0z;(refine z02 (z14 (zu7 (by omega) (by omega))) rfl rfl ?_))))|(apply z05;(first|refine z0k ?_|apply z09|refine z1m ?_| refine z1t (fun _=>?_) (fun _=>?_)))|(apply z06;(first|apply z07|apply z00|refine z1f ?_| apply z08|apply z01|apply z03|refine z0h (fun _=>?_) (fun _=>?_)| refine z3o rfl (fun _=>?_) (fun _=>?_))))
 all_goals try (exfalso;omega)
 all_goals exact z0c Tryz.func173 _ z1j ⟨rfl,rfl⟩):p:=h
theorem zD7 {p:Prop} (h:p:=by
 refine⟨fun m c hm=>?_,fun m1 m2 c1 c2 e1 e2 l1 l2 hn g hg'=>?_,h2.lt⟩
 · cases hc:c.live with
   | false=>cases c <;> first|(simp[Blk.live] at hc;done)|exact .gone _
   | true =>
    rcases key m c hm hc with ⟨rfl,rfl⟩|⟨_,_,h3⟩
    · rw[hsame];exact h2.blk _ _ hrow
    · exact h2.blk m c h3
 · rcases key m1 c1 e1 l1 with ⟨rfl,rfl⟩|⟨n1,n1',h3⟩
   · rcases key m2 c2 e2 l2 with ⟨rfl,rfl⟩|⟨n2,n2',h4⟩
     · exact absurd rfl hn
     · rw[hsame] at hg'
       exact h2.inj (0,y) m2 _ c2 hrow h4 l1 l2 (Ne.symm n2') g hg'
   · rcases key m2 c2 e2 l2 with ⟨rfl,rfl⟩|⟨n2,n2',h4⟩
     · rw[hsame]
       exact h2.inj m1 (0,y) c1 _ h3 hrow l1 l2 n1' g hg'
     · exact h2.inj m1 m2 c1 c2 h3 h4 l1 l2 hn g hg'):p:=h
theorem zD8 {p:Prop} (h:p:=by
 obtain rfl:=h1 (by decide);obtain⟨rfl,rfl⟩:=h2 (by decide);obtain rfl:=h3 (by decide)
 repeat' (first|(apply z04;(first|refine z0l ?_| (apply z0a;(refine z02 z18 rfl rfl ?_))|(apply z0d;(refine z02 z1a rfl rfl ?_))|(apply z0z;(refine z02 (zaw rfl) rfl rfl ?_))|(apply z0x;(first|refine z02 (zbr rfl) rfl rfl ?_| refine z02 (z0y rfl) rfl rfl ?_| refine z02 (z7c rfl) rfl rfl ?_))|(apply z0f;(refine z2d ?_))|(apply z0i;(refine z0b z1e ?_))|(apply z1c;(refine z0b z1q ?_))|(apply z1i;(refine z2x ?_))))|(apply z05;(first|refine z0k ?_|apply z09|refine z1m ?_| refine z1t (fun _=>?_) (fun _=>?_)))|(apply z06;(first|apply z07|apply z00|refine z1b rfl ?_|refine z1f ?_| apply z08|apply z01|apply z03)))
 all_goals first
  | (exfalso;omega)
  | exact z0c Tryz.func60 _ z1j ⟨rfl,rfl⟩
  | (exfalso;simp_all;done)):p:=h
theorem zD9 {p:Prop} (h:p:=by
 repeat' (first|(apply z04;(first|refine z0l ?_| (apply z0a;(first|refine z02 z2c rfl rfl ?_| refine z02 z18 rfl rfl ?_))|(apply z0d;(refine z02 z1a rfl rfl ?_))|(apply z0j;(refine z2s hx ?_))|(apply z0f;(refine z2d ?_))|(apply z0i;(refine z0b z1e ?_))|(apply z1c;(refine z0b z45 ?_))|refine z43 rfl rfl (by decide) ?_))|(apply z05;(first|refine z0k ?_|apply z09))|(apply z06;(first|apply z07|apply z00|apply z08|apply z01|apply z2z|apply z03|refine z0h (fun _=>?_) (fun _=>?_)))|(apply z2v;(first|refine z3h ?_| (apply z0u;(first|refine z0w z2c rfl rfl ?_| refine z0w z18 rfl rfl ?_))|(apply z0q;(refine z0w z1a rfl rfl ?_)))))
 all_goals try (exfalso;omega)
 all_goals exact z0c Tryz.func32 _ z1j ⟨rfl,rfl⟩):p:=h
theorem zD10 {p:Prop} (h:p:=by
 refine z10 fun H=>?_
 refine z0g Tryz.func69 (by kernel_rfl) rfl (by simp) ?_
 dsimp only[Tryz.f69]
 repeat' (first|(apply z04;(first|refine z0l ?_| (apply z0a;(first|refine z02 z18 rfl rfl ?_| refine z02 z2p rfl rfl ?_))|(apply z0d;(refine z02 z1a rfl rfl ?_))|(apply z0n;(refine z02 (z1o rfl (z6u hv)) rfl rfl ?_))|(apply z0j;(refine z2s hx ?_))|(apply z1c;(refine z0b z1q ?_))))|(apply z05;(first|refine z0k ?_|apply z09))|(apply z06;(first|apply z07|apply z00|refine z1b rfl ?_)))
 all_goals first
  | exact z0c Tryz.func69 _ z1j ⟨rfl,rfl⟩
  | (exfalso;omega)):p:=h
theorem zD11 {p:Prop} (h:p:=by
 all_goals exact z0c Tryz.func188 _ (z1s rfl rfl rfl rfl rfl rfl) ⟨by first|rfl|(dsimp only[ptc];rw[← ho2];rfl)|(dsimp only[ptc];rw[← ho1];rfl)|(dsimp only[ptc];rw[← ho1,← ho2];rfl),rfl⟩):p:=h
theorem zD12 {p:Prop} (h:p:=by
 repeat' (first|(apply z04;(first|refine z0l ?_| (apply z0a;(refine z02 z18 rfl rfl ?_))|(apply z0d;(refine z02 z1a rfl rfl ?_))|(apply z0z;(refine z02 (znr z1p) rfl rfl ?_))|(apply z0x;(first|refine z02 zjt rfl rfl ?_| refine z02 ze4 rfl rfl ?_))))|(apply z05;(first|refine z0k ?_|apply z09))|(apply z06;(first|apply z07|apply z00|apply z08|apply z01|apply z03|refine z0h (fun _=>?_) (fun _=>?_)| refine z3o rfl (fun _=>?_) (fun _=>?_)|refine z0o ?_)))
 all_goals try (exfalso;omega)
 exact z0c Tryz.func150 _ z1j ⟨rfl,rfl⟩):p:=h
theorem zD13 {p:Prop} (h:p:=by
 refine⟨fun m c hc=>?_,fun m1 m2 c1 c2 e1 e2 l1 l2 hn=>?_,hr.heap.lt⟩
 · by_cases hm:m=(md+1,ms)
   · subst hm
     rw[hgone] at hc;simp at hc;subst hc;exact .gone _
   · rw[hne m hm];exact(hr.heap.blk m c hc).reβ (md+1,ms) hne (hold m c hc)
 · have hg1:∀ m c,z13 (push hp up) m=some c→c.live=true→m≠(md+1,ms):=by
    rintro m c hc hl rfl
    rw[hgone] at hc;simp at hc;subst hc;cases hl
   rw[hne m1 (hg1 m1 c1 e1 l1),hne m2 (hg1 m2 c2 e2 l2)]
   exact hr.heap.inj m1 m2 c1 c2 e1 e2 l1 l2 hn):p:=h
theorem zD14 {p:Prop} (h:p:=by
 repeat' (first|(apply z04;(first|refine z0l ?_| (apply z0a;(refine z02 z2c rfl rfl ?_))|(apply z0j;(first|refine zfb c1 rfl rfl (by decide) ?_|refine z2s c2 ?_| refine z2s c4 ?_))|(apply z0f;(refine z2d ?_))|(apply z0i;(refine z0b z1e ?_))|(apply z1c;(refine z0b z45 ?_))))|(apply z05;(first|refine z0k ?_|apply z09))|(apply z06;(first|apply z07|apply z00|refine z1f ?_| apply z08|apply z01|apply z03|refine z0h (fun _=>?_) (fun _=>?_))))
 all_goals try (exfalso;omega)
 refine z0c Tryz.func122 _ z1j ⟨?_,rfl⟩
 simp[hp]):p:=h
theorem zD15 {p:Prop} (h:p:=by
 simp only[execOp]
 have:(Array.map (fun x:Nat × Operand=>match x with|(i,x)=>(i,a.eval x)) l.toArray)=l.toArray.map fun x=>(x.1,a.eval x.2):=rfl
 rw[this,Sem.run_bind,hrun]
 rfl):p:=h
theorem zD16 {p:Prop} (h:p:=by
 all_goals first
  | (exfalso;omega)
  | exact z0c Tryz.func60 _ z1j ⟨rfl,rfl⟩
  | (exfalso;simp_all;done)):p:=h
theorem zD17 {p:Prop} (h:p:=by
 repeat' (first|(apply z04;(first|refine z0l ?_| (apply z0a;(refine z02 z18 rfl rfl ?_))|(apply z0d;(refine z02 z1a rfl rfl ?_))|(apply z0x;(refine z02 (z0y rfl) rfl rfl ?_))|(apply z1c;(refine z0b z1q ?_))))|(apply z05;(first|refine z0k ?_|apply z09|refine z1m ?_| refine z1t (fun _=>?_) (fun _=>?_)))|(apply z06;(first|apply z07|apply z00|refine z1b rfl ?_)))
 all_goals try (exfalso;omega)
 all_goals exact z0c Tryz.func96 _ z1j ⟨by rw[hv],rfl⟩):p:=h
theorem zD18 {p:Prop} (h:p:=by
 cases hr:Region.ready .any ops.toArray listed with
 | nil=>rfl
 | cons x xs =>
  rw[hr] at hi
  have hlt:tt % (x::xs).length<(x::xs).length:=Nat.mod_lt _ (by simp)
  simp at hi
  simp at hlt
  omega):p:=h
theorem zD19 {p:Prop} (h:p:=by
 have hw:RowKit.Below w.heap.size w { w with drawn:=w.drawn+1 }:=⟨rfl,rfl,rfl,zAj _,fun _ _=>rfl⟩
 have hdone:=key β own a { w with drawn:=w.drawn+1 } (hrep.below hw) b hb hk hn cs
 refine(hdone.ext (Below.ext hw own)).of_steps (.one ?_)
 have:=stepR_region_draw (P:=P) (b:=b) (a:={ a with defers:=b.defers }) (k:=k) (cs:=cs) (w:=w) (ops:=ops.toArray) (id:=id)
 refine this.trans ?_
 simp only[Region.schedule,hmix,Bool.true_or,if_true]
 rfl):p:=h
theorem zD20 {p:Prop} (h:p:=by
 repeat' (first|(apply z04;(first|refine z0l ?_| (apply z0a;(refine z02 z18 rfl rfl ?_))|(apply z0d;(refine z02 z1a rfl rfl ?_))))|(apply z05;(first|refine z0k ?_|apply z09))|(apply z06;(first|apply z07|apply z00|refine z1b rfl ?_|refine z1f ?_| apply z08|apply z01|refine z0h (fun _=>?_) (fun _=>?_)| refine z0o ?_)))
 all_goals try (exfalso;omega)
 all_goals (refine z0c Tryz.func170 _ z1j ⟨?_,rfl⟩;rw[hvl];simp_all <;> omega)):p:=h
theorem zD21 {p:Prop} (h:p:=by
 repeat' (first|(apply z04;(first|refine z0l ?_| (apply z0a;(refine z02 z2c rfl rfl ?_))|(apply z0j;(first|refine z2s hs ?_| refine z3u hk rfl (bkT hT) (by decide) ?_|refine z2s hf ?_| refine z3u hh rfl (bkT hT) (by decide) ?_))|(apply z1c;(refine z0b z45 ?_))))|(apply z05;(first|refine z0k ?_|apply z09))|(apply z06;(first|apply z07|apply z00)))
 all_goals first
  | exact z0c Tryz.func14 _ z1j ⟨rfl,rfl⟩
  | (exfalso;simp_all;done)):p:=h
theorem zD22 {p:Prop} (h:p:=by
 intro hp h1 q1
 have qq:∀ x,z3r (0,x) hp=true→z8l (push hp H) (0,x):=fun x q e t b he hb=>by
  obtain rfl:e=0:=by simp at he;omega
  exact z4d q hb
 have:=zhh s (push hp H) h1 (qq 901 q1)
 rw[zbi] at this
 exact this):p:=h
theorem zD23 {p:Prop} (h:p:=by
 show PV.saysL (j,x) (PV.liftL 0 cs)=PV.saysL (j,x) cs
 have h0:∀ p:PV,p.lift 0=p:=by
  intro p
  refine PV.rec (motive_1:=fun p=>p.lift 0=p) (motive_2:=fun ps=>PV.liftL 0 ps=ps) ?_ ?_ ?_ ?_ ?_ ?_ ?_ ?_ ?_ ?_ ?_ ?_ ?_ ?_ ?_ p <;> intros <;> simp_all [PV.lift,PV.liftL]
 have:∀ cs,PV.liftL 0 cs=cs:=by
  intro cs;induction cs with
  | nil=>rfl
  | cons p r ih=>simp[PV.liftL,h0,ih]
 rw[this]):p:=h
theorem zD24 {p:Prop} (h:p:=by
 repeat' (first|(apply z04;(first|refine z0l ?_| (apply z0a;(refine z02 z18 rfl rfl ?_))|(apply z0d;(refine z02 z1a rfl rfl ?_))|(apply z1c;(refine z0b z1q ?_))))|(apply z05;(first|refine z0k ?_|apply z09|refine z1m ?_| refine z3v rfl rfl (fun _=>?_) (fun _=>?_)))|(apply z06;(first|apply z07|apply z00)))
 all_goals try (exfalso;omega)
 all_goals exact z0c Tryz.func171 _ z1j ⟨rfl,rfl⟩):p:=h
theorem zD25 {p:Prop} (h:p:=by
 have hbr:=hr.heap.blk (md+1,ms) _ hlook
 refine HR.install (d:=y) hr0 hfr.1 (Ext.refl w own) hr.heap.lt (v:=β (md+1,ms)) (b:=raw.lift (md+1)) (fun m c hm hc hmy g hg=>?_) (hbr.reβ (0,y) (z2u β y _) (Blk.lift_says _ _ _))
 obtain⟨h1,h2⟩:=key m c hm hc
 exact⟨rfl,(hr.heap.blk m c h2).block_lt hc hg,fun _=>hr.heap.inj m (md+1,ms) c _ h2 hlook hc hl' h1 g hg⟩):p:=h
theorem zD26 {p:Prop} (h:p:=by
 rw[his]
 simp only[madeCells,Array.getElem?_toList,Array.getElem?_map]
 rw[Array.getElem?_range]
 simp only[hlt,if_true,Option.map_some,hzsz]
 have hmod:(i'*te.size+j) % te.size=j:=by rw[Nat.add_comm,Nat.add_mul_mod_self_right];exact Nat.mod_eq_of_lt hj
 rw[hmod,← hzc,Array.getElem?_toList,getElem!_pos z.cells j (by omega),Array.getElem?_eq_getElem (by omega)]):p:=h
theorem zD27 {p:Prop} (h:p:=by
 obtain rfl:k=l.length:=by omega
 rw[zAr,z5a] at hi
 repeat' (first|(apply z04;(refine z0l ?_))|(apply z05;(first|refine z0k ?_|apply z09))|(apply z06;(first|apply z07|apply z00|apply z08|apply z01|refine z0h (fun _=>?_) (fun _=>?_)| refine z0o ?_)))
 all_goals try (exfalso;omega)
 all_goals exact z0c Tryz.func110 _ z1j ⟨by rw[← hi],rfl⟩):p:=h
theorem zD28 {p:Prop} (h:p:=by
 obtain⟨i,u,z,hi,hu,hz,hs,hb,hk',_⟩:=h.get
 rw[hk] at hk'
 cases u <;> simp[TK.ofD] at hk' <;> simp_all):p:=h
theorem zD29 {p:Prop} (h:p:=by
 have hp:=PR.ref (β:=z5g β d v') (w:=w') (own:=fun g=>own g∨v'.ownBlock=some g) (0,d)
 rw[z1w] at hp
 exact hin.put (dst:=some d) (p:=.ref (0,d)) (by simpa[St.fits] using hd) hp):p:=h
theorem zD30 {p:Prop} (h:p:=by
 all_goals try (exfalso;omega)
 all_goals exact z0e ih' rfl rfl):p:=h
theorem zD31 {p:Prop} (h:p:=by
 rw[← i2]
 repeat' (first|(apply z04;(first|refine z0l ?_| (apply z0a;(refine z02 z2a rfl rfl ?_))|(apply z0f;(refine z2d ?_))))|(apply z05;(first|refine z0k ?_|apply z09))|(apply z06;(first|apply z07|apply z00|apply z08|apply z01|refine z0h (fun _=>?_) (fun _=>?_)| refine z0o ?_)))
 all_goals exact zD5):p:=h
theorem zD32 {p:Prop} (h:p:=by
 refine⟨hgrow.os,hgrow.tape,hgrow.output,hgrow.size,fun b hb hno=>hgrow.block b hb fun e=>hno (ho b e.symm),fun b hb hno=>?_⟩
 rintro(h|h)
 · exact hno h
 · rcases hwhere with e|e
   · rw[e] at h;exact hno (ho b h)
   · rw[e] at h;simp at h;omega):p:=h
theorem zD33 {p:Prop} (h:p:=by
 have h1:=(hlist i).2 hx
 rw[Array.getD_eq_getD_getElem?,Array.getElem?_eq_getElem (by omega)] at h1 hun
 simp at h1 hun
 rw[h1] at hun;cases hun):p:=h
theorem zD34 {p:Prop} (h:p:=by
 refine z3i ?_
 repeat' (first|(apply z04;(refine z0l ?_))|(apply z05;(first|refine z0k ?_|apply z09))|(apply z06;(first|apply z07|apply z00|refine z1f ?_| refine z0o ?_)))
 all_goals try (exfalso;omega)
 all_goals first
  | exact z0c Tryz.func58 _ z2m ⟨zvg (by omega) (by omega),rfl⟩):p:=h
theorem zD35 {p:Prop} (h:p:=by
 have hm:t∈(#[22,22]:Array TypeId):=Array.mem_of_getElem? ht
 simp only[List.mem_toArray,zAc,List.not_mem_nil,or_false] at hm
 rcases hm with rfl|rfl
 · exact(show Tryz.prog.wantsStandIn 22=false by kernel_rfl)
 · exact(show Tryz.prog.wantsStandIn 22=false by kernel_rfl)):p:=h
theorem zD36 {p:Prop} (h:p:=by
 all_goals try (exfalso;omega)
 all_goals ((repeat rw[z50]);first|exact z0c Tryz.func184 _ (z0r rfl rfl rfl rfl rfl rfl rfl) ⟨rfl,rfl⟩|exact z0c Tryz.func184 _ z2m ⟨rfl,rfl⟩|exact z0c Tryz.func184 _ z1j ⟨rfl,rfl⟩|exact z0c Tryz.func184 _ (z5b rfl rfl rfl rfl) ⟨rfl,rfl⟩)):p:=h
theorem zD37 {p:Prop} (h:p:=by
 have hb:∃ c,fn.body=some c:=by cases hc:fn.body with|none=>rw[hc] at hbody;cases hbody|some c=>exact⟨c,rfl⟩
 obtain⟨c,hb⟩:=hb
 have hname':¬ (fn.name= "runtime.NumGoroutine"):=by simpa using hname
 simp[execOp,resolve,hv,Deferred.ofValue,invoke,callFunc,hfn,hname',hb]):p:=h
theorem zD38 {p:Prop} (h:p:=by
 rw[PV.liftL_get] at hx
 cases hc:cs[j]? with
 | none=>simp[hc] at hx
 | some y=>rw[hc] at hx;simp at hx;subst hx;exact ih j y v hc hv):p:=h
theorem zD39 {p:Prop} (h:p:=by
 obtain⟨h1,h2⟩:=hr
 refine⟨h1,?_⟩
 rcases h2 with h2|⟨g,cap,cur,hv,hb,hg,rest⟩
 · exact .inl h2
 · subst hv
   refine .inr ⟨g,cap,cur,rfl,hb,?_,rest⟩
   rw[(hk rfl g rfl).1];exact hg):p:=h
theorem zD40 {p:Prop} (h:p:=by
 rw[hβ] at hbr ⊢
 cases hbr with
 | lp g _ _ _ _ _ _ _ _ tmps' df' ho' hg' hl hd =>
  rw[hg] at hg';simp at hg'
  obtain⟨rfl,rfl⟩:=hg'
  exact .lp L n' f' ps asg body _ state' pend' tmps df ho hhere hl fun t p hp=>(hd t p hp).mono hE):p:=h
theorem zD41 {p:Prop} (h:p:=by
 by_cases hji:j=i
 · subst hji;simp[hsz,hilt]
 · rw[getD_set_ne false (Ne.symm hji),hlist];simp[hji]):p:=h
theorem zD42 {p:Prop} (h:p:=by
 all_goals try (exfalso;omega)
 all_goals exact z0c Tryz.func32 _ z1j ⟨rfl,rfl⟩):p:=h
theorem zD43 {p:Prop} (h:p:=by
 all_goals try (exfalso;omega)
 all_goals exact z0c Tryz.func123 _ z1j ⟨rfl,rfl⟩):p:=h
theorem zD44 {p:Prop} (h:p:=by
 all_goals try (exfalso;omega)
 all_goals first
  | (refine z0c Tryz.func110 _ z1j ⟨?_,rfl⟩;rw[← hi,zAy (by simp_all)])
  | exact z0e (ih (k+1) ⟨by omega,by rw[← hi,zAx (by simp_all)]⟩ (by omega)) rfl rfl):p:=h
theorem zD45 {p:Prop} (h:p:=by
 rw[hr] at hrun
 simp only[Result.ok.injEq] at hrun
 right;rw[← hrun.1];rfl):p:=h
theorem zD46 {p:Prop} (h:p:=by
 have e0:(!ls.any (zn8 c))=true:=by
  rw[zA6,List.any_eq_false]
  intro t ht2
  have:=hin t ht2
  simp only[zn8,zAt,zA3,not_or]
  omega
 rw[e0] at hf;exact hf):p:=h
theorem zD47 {p:Prop} (h:p:=by
 rw[zdw] at hp
 cases hc:cs[j]? with
 | none=>rw[hc] at hp;simp at hp
 | some c=>rw[hc] at hp;simp at hp;subst hp;exact(hd j c v hc hv).ren):p:=h
theorem zD48 {p:Prop} (h:p:=by
 rw[zdz] at hp
 cases hc:cs[j]? with
 | none=>rw[hc] at hp;simp at hp
 | some c=>rw[hc] at hp;simp at hp;subst hp;exact PR.frz hD (hd j c v hc hv)):p:=h
theorem zD49 {p:Prop} (h:p:=by
 all_goals try (exfalso;omega)
 all_goals first
  | exact z0c Tryz.func30 _ z1j ⟨rfl,rfl⟩):p:=h
theorem zD50 {p:Prop} (h:p:=by
 unfold z9u at hn ⊢
 cases hm:R.rnd with
 | none=>rw[hm] at hn;exact hn
 | some m =>
  rw[hm] at hn
  obtain⟨hv,L,h1,h2⟩:=hn
  exact⟨hv,L,h1,(hout m hv).trans h2⟩):p:=h
theorem zD51 {p:Prop} (h:p:=by
 first
  | (rw[zAi (p:=g.mn≤((up c i).length:Int)) (by assumption)];rfl)
  | (rw[zAn (p:=g.mn≤((up c i).length:Int)) (by assumption)];rfl)):p:=h
theorem zD52 {p:Prop} (h:p:=by
 simp only at hp'
 rw[z5r] at hp'
 cases hq':look tm t with
 | none=>rw[hq'] at hp';cases hp'
 | some q=>rw[hq'] at hp';simp at hp';subst hp';exact(hr.tm t q hq').drop hne):p:=h
theorem zD53 {p:Prop} (h:p:=by
 refine z39 700 1 3 (raw:=.box [.ref (0,5000)]) rfl rfl (z0s v3 (by simp)) rfl rfl ?_
 refine ze9 rfl ⟨rfl,?_⟩
 rw[← hV,z2t,zb5 (by simp),z2t,zcb (m:=(1,3)) hb3]):p:=h
theorem zD54 {p:Prop} (h:p:=by
 intro m c hm hc
 rw[z5n,z3a] at hm
 by_cases e:m=(md+1,ms)
 · rw[zAy e] at hm;simp[atF,Blk.lift] at hm;subst hm;cases hc
 · rw[zAx e] at hm;exact⟨e,hm⟩):p:=h
theorem zD55 {p:Prop} (h:p:=by
 refine .d _ _ (.agg _ _ (by simpa using hl) h1 fun j x v hx hv=>?_)
 have:=hd j (.d x) v (by rw[zAd,hx];rfl) hv
 cases this with|d _ _ h=>exact h):p:=h
theorem zD56 {p:Prop} (h:p:=by
 all_goals try (exfalso;omega)
 all_goals exact z0e (ih (q+1) (by omega) (by omega)) rfl rfl):p:=h
theorem zD57 {p:Prop} (h:p:=by
 rintro e W2 ⟨he,own2,hE⟩
 exact⟨_,he,zit (P:=Tryz.prog) (tb:=4) (by kernel_rfl) (by kernel_rfl) hW2 hE rfl rfl (by kernel_rfl) (by kernel_rfl)⟩):p:=h
theorem zD58 {p:Prop} (h:p:=by
 simp only[List.nil_append] at e;subst e
 obtain⟨j,h3,h4,h5⟩:=h2
 exact⟨j,.inr ⟨h1,h3⟩,h4,(za9 hab hFb hla w j (hfb j h3)).2 h5⟩):p:=h
theorem zD59 {p:Prop} (h:p:=by
 rw[zam] at hx
 cases hc:cs[j]? with
 | none=>rw[hc] at hx;cases hx
 | some y=>rw[hc] at hx;simp at hx;subst hx;exact(hd j y u hc hu).alias hab):p:=h
theorem zD60 {p:Prop} (h:p:=by
 cases v with
 | slice a l c=>cases a <;> simp[Value.ownBlock] at hg;subst hg;exact(hk rfl _ rfl).2
 | _=>simp[Value.ownBlock] at hg):p:=h
theorem zD61 {p:Prop} (h:p:=by
 rcases hr.2 with h2|⟨g,cap,cur,hv,hb,hg,rest⟩
 · exact .inl h2
 · exact .inr ⟨g,cap,cur,hv,hb,h.cell hg (by simp),rest⟩):p:=h
theorem zD62 {p:Prop} (h:p:=by
 all_goals try (exfalso;omega)
 all_goals exact z0e ihn' rfl rfl):p:=h
theorem zD63 {p:Prop} (h:p:=by
 rcases hr.2 with h|⟨g',cap,cur,hv,_⟩
 · rw[h.1] at hg;simp[z1y] at hg
 · subst hv;simp[z1y] at hg;subst hg;exact ho _ rfl):p:=h
theorem zD64 {p:Prop} (h:p:=by
 constructor
 · intro h;exact⟨[],[],rfl,h,zim _⟩
 · rintro⟨u,v,e,h1,h2⟩
   obtain⟨rfl,rfl⟩:=z9r e
   exact h1):p:=h
theorem zD65 {p:Prop} (h:p:=by
 simp only[List.getD_cons_zero,List.getD_cons_succ]
 rw[e,zAy (by rw[zA7,zA3];exact⟨by omega,hv⟩)];rfl):p:=h
theorem zD66 {p:Prop} (h:p:=by
 exact⟨fun m b hb=>hr.heap.blk m b (key m b hb),fun m1 m2 b1 b2 h1 h2=>hr.heap.inj m1 m2 b1 b2 (key _ _ h1) (key _ _ h2),hr.heap.lt⟩):p:=h
theorem zD67 {p:Prop} (h:p:=by
 rcases this with h|h
 · simp only[execOp,hv,Instr.loadAt,Instr.sureAddr];simp[h,ha]
 · exact absurd hs h.2):p:=h
theorem zD68 {p:Prop} (h:p:=by
 simp only[zAs] at hq
 rcases hq with hq|hq
 · exact hg.agrees q hq
 · exact z3g hz1 q hq):p:=h
theorem zD69 {p:Prop} (h:p:=by
 simp only[zAs] at hq
 rcases hq with hq|hq
 · exact hg.agrees q hq
 · exact z3g hz0 q hq):p:=h
theorem zD70 {p:Prop} (h:p:=by
 all_goals try (exfalso;omega)
 all_goals exact z0c Tryz.func123 _ z1j ⟨congrArg (fun b=>RV.v (B b)) hfin,rfl⟩):p:=h
theorem zD71 {p:Prop} (h:p:=by
 subst hxs
 refine⟨_,_,?_,(RowKit.Below.refl _ _).alloc (zAj _) _,.d _ _ (zeo hr.heap.lt hcr hvl e)⟩
 exact zD15):p:=h
theorem zD72 {p:Prop} (h:p:=by
 obtain⟨b1,h1,l1⟩:=hm x bx hx lx
 obtain⟨b2,h2,l2⟩:=hm y by' hy ly
 exact h.inj x y b1 b2 h1 h2 l1 l2 hne g' hg'):p:=h
theorem zD73 {p:Prop} (h:p:=by
 rw[Nat.div_add_mod' j te.size,hj] at h2
 rw[List.all_eq_true] at hz
 exact hz v (zA2 h2.symm)):p:=h
theorem zD74 {p:Prop} (h:p:=by
 all_goals try (exfalso;omega)
 all_goals (refine z0c Tryz.func170 _ z1j ⟨?_,rfl⟩;rw[hvl];simp_all <;> omega)):p:=h
theorem zD75 {p:Prop} (h:p:=by
 simp at hx;subst hx
 exact⟨h5,by simp only;omega,h3,h4,.inl rfl,by simp only;omega,by simp only;omega⟩):p:=h
