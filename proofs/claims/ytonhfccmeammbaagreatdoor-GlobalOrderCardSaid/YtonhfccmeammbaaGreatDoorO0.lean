/- Blocks of steps that end a branch. -/
import Derived.WalkKit
import Derived.RangeFuncRecord
import Derived.Laws.StructEq
import Derived.KernelRfl
import Derived.Great.BuildSlice
set_option maxRecDepth 1000000
set_option maxHeartbeats 20000000
theorem zA0:type_of% @List.getElem?_eq_getElem:=@List.getElem?_eq_getElem
theorem zA1:type_of% @List.getElem?_eq_some_iff:=@List.getElem?_eq_some_iff
theorem zA2:type_of% @List.mem_of_getElem?:=@List.mem_of_getElem?
theorem zA3:type_of% @decide_eq_true_eq:=@decide_eq_true_eq
theorem zA4:type_of% @List.length_map:=@List.length_map
theorem zA5:type_of% @decide_eq_false_iff_not:=@decide_eq_false_iff_not
theorem zA6:type_of% @Bool.not_eq_true':=@Bool.not_eq_true'
theorem zA7:type_of% @Bool.and_eq_true:=@Bool.and_eq_true
theorem zA8:type_of% @List.length_append:=@List.length_append
theorem zA9:type_of% @List.getElem?_append_left:=@List.getElem?_append_left
theorem zAa:type_of% @List.mem_cons:=@List.mem_cons
theorem zAb:type_of% @List.getElem?_map:=@List.getElem?_map
theorem zAc:type_of% @Nat.zero_le:=@Nat.zero_le
theorem zAd:type_of% @List.getElem?_append_right:=@List.getElem?_append_right
theorem zAe:type_of% @Option.some.injEq:=@Option.some.injEq
theorem zAf:type_of% @decide_eq_true:=@decide_eq_true
theorem zAg:type_of% @Nat.le_refl:=@Nat.le_refl
theorem zAh:type_of% @List.length_cons:=@List.length_cons
theorem zAi:type_of% @List.append_assoc:=@List.append_assoc
theorem zAj:type_of% @List.length_take:=@List.length_take
theorem zAk:type_of% @decide_eq_false:=@decide_eq_false
theorem zAl:type_of% @List.getElem?_set_self:=@List.getElem?_set_self
theorem zAm:type_of% @List.length_replicate:=@List.length_replicate
theorem zAn:type_of% @List.mem_append:=@List.mem_append
theorem zAo:type_of% @List.getElem?_eq_none:=@List.getElem?_eq_none
theorem zAp:type_of% @List.getElem?_of_mem:=@List.getElem?_of_mem
theorem zAq:type_of% @Nat.lt_of_lt_of_le:=@Nat.lt_of_lt_of_le
theorem zAr:type_of% @if_neg:=@if_neg
theorem zAs:type_of% @if_pos:=@if_pos
theorem zD1 {p:Prop} (h:p:=by
 skip
 refine z0k ?_
 refine z03 (z1x (fun m3_11:Int=>⟨128,[(0,PV.lift 1 (PV.d (D.slice (List.map Node.cs l)))),(3,PV.ptr (0,3) 0),(6,PV.ref (0,17)),(7,I IntKind.i64 (↑k1:Int)),(8,PV.ptr (0,8) 0),(11,I .i64 m3_11),(18,PV.lift 1 (PV.d (D.slice (List.map Node.cs l)))),(19,I IntKind.i64 (↑l.length:Int)),(20,I IntKind.i64 (↑k1:Int))],[(8,Blk.box (z0l (z3g ({ size:=4,bytes:=40,kind:=TK.struct,fields:=[(0,1),(1,1),(2,1),(3,1)],zero:=[Value.string { data:=#[] },Value.int IntKind.i64 0,Value.int IntKind.i64 0,Value.int IntKind.i64 0] }:TI).zero) 0 (List.map PV.d x1.cs))),(3,Blk.box (List.map PV.d c.cs)),(17,Blk.row 3 ({ size:=1,bytes:=8,kind:=TK.int IntKind.i64,fields:=[],zero:=[Value.int IntKind.i64 0] }:TI).size (List.map (fun x=>[z3b x]) (q1.set (↑k1:Int).toNat w1)))],H⟩) (fun m3_11:Int=> -1≤m3_11∧m3_11<k1) (fun m3_11:Int=>(m3_11+1).toNat) ?_ ((k1:Int)-1) (by omega)) rfl rfl
 intro m3_11 hk3 ih3
 by_cases hlt3:0≤m3_11
 case pos =>
  obtain⟨x3,hx3⟩:∃ x,l[m3_11.toNat]? =some x:=⟨_,zA0 (by omega)⟩
  repeat' (first|(apply z05;(first|refine z0r ?_| (apply z0c;(refine z02 (z1i (hzs _ _ (by simpa using hk1.2.1)) rfl rfl rfl) rfl rfl ?_))|(apply z0o;(refine z02 (z1d rfl (by omega) (by simp;omega) rfl) rfl rfl ?_))|(apply z15;(first|refine z02 (z1a z1y) rfl rfl ?_| refine z02 (z2l z1y) rfl rfl ?_))|(apply z0n;(refine z1b (w1+1) (by rfl) (by rfl) (by rfl) (by rfl) (hzs _ _ (by simpa using hk1.2.1)) (by rfl) (by rfl) (by rfl) (by rfl) ?_))))|(apply z06;(first|refine z0q ?_|(apply z22;refine z23 [0,1,3,4,5,6,7,8,9,10,11,14,18,19,20,21,25,31,49,61,65,82,95,105,113,125,100500,100501] (by repeat' (first|exact z1f.nil|apply z1f.yes rfl|apply z1f.no)) (by repeat' (first|exact z0f.nil|apply z0f.old rfl|apply z0f.gone|apply z0f.new rfl)) ?_)))|(apply z07;(first|(refine z6n (b:= ?_) hm25 ?_ ?_ ?_;rotate_left;(exact rfl);(exact rfl);(exact rfl))|refine z90 25 113 (fun b25=>?_) (fun hm25=>?_)|apply z08|apply z00|apply z09|apply z01|apply z2w|apply z04|refine z0m (fun _=>?_) (fun _=>?_)| refine z1u rfl (fun _=>?_) (fun _=>?_)|refine z0p ?_))|(apply z2t;(first|(apply z1e;refine z51 [0,1,3,4,5,6,7,8,9,10,11,14,18,19,20,21,25,31,49,61,65,82,95,105,113,125,100500,100501] mix (by kernel_rfl) (by repeat' (first|exact z1f.nil|apply z1f.yes rfl|apply z1f.no)) (by repeat' (first|exact z0f.nil|apply z0f.old rfl|apply z0f.gone|apply z0f.new rfl)) ?_)|refine z34 ?_| (apply z0z;(first|refine z0y z1k rfl rfl ?_| refine z0y z2a rfl rfl ?_))|(apply z0v;(first|refine z0y z1h rfl rfl ?_| refine z0y (z58 rfl rfl) rfl rfl ?_))|(apply z1l;(refine z0y (z1p rfl (z5i hx3)) rfl rfl ?_)))))
  all_goals try (first|exact z0a Tryz.func117 _ z20 ⟨_,rfl,⟨_,_,rfl⟩,rfl⟩|exact z03 (ih3 (m3_11-1) (by omega) (by omega)) rfl rfl|(first|exact z03 (ih1 ⟨k1+1,q1.set ((k1:Nat):Int).toNat (z1+1)⟩ (hst q1 (z1+1) hk1.2.1 hk1.2.2 (by omega) (by omega)) (by simp;omega)) rfl rfl|exact z03 (ih1 ⟨k1+1,(q1.set ((k1:Nat):Int).toNat w1).set ((k1:Nat):Int).toNat (w1+1)⟩ (hst _ (w1+1) (by simpa using hk1.2.1) hsw (by omega) (by omega)) (by simp;omega)) rfl rfl)|(exfalso;(try clear ih1);(try clear ih2);(try clear ih3);(try clear hm14);(try clear hm18);(try clear hm25);omega)|((fail_if_success (refine z0k ?_));exfalso;(try clear ih1);(try clear ih2);(try clear ih3);(try clear hm14);(try clear hm18);(try clear hm25);simp_all;done))
 case neg =>
  repeat' (first|(apply z05;(first|refine z0r ?_| (apply z0c;(refine z02 (z1i (hzs _ _ (by simpa using hk1.2.1)) rfl rfl rfl) rfl rfl ?_))|(apply z0o;(refine z02 (z1d rfl (by omega) (by simp;omega) rfl) rfl rfl ?_))|(apply z15;(refine z02 (z1a z1y) rfl rfl ?_))|(apply z0n;(refine z1b (w1+1) (by rfl) (by rfl) (by rfl) (by rfl) (hzs _ _ (by simpa using hk1.2.1)) (by rfl) (by rfl) (by rfl) (by rfl) ?_))))|(apply z06;(first|refine z0q ?_|(apply z22;refine z23 [0,1,3,4,5,6,7,8,9,10,11,14,18,19,20,21,25,31,49,61,65,82,95,105,113,125,100500,100501] (by repeat' (first|exact z1f.nil|apply z1f.yes rfl|apply z1f.no)) (by repeat' (first|exact z0f.nil|apply z0f.old rfl|apply z0f.gone|apply z0f.new rfl)) ?_)))|(apply z07;(first|apply z08|apply z00|apply z09|apply z01|apply z2w|apply z04|refine z0m (fun _=>?_) (fun _=>?_)| refine z0p ?_))|(apply z2t;(refine z34 ?_)))
  all_goals try (first|exact z0a Tryz.func117 _ z20 ⟨_,rfl,⟨_,_,rfl⟩,rfl⟩|(first|exact z03 (ih1 ⟨k1+1,q1.set ((k1:Nat):Int).toNat (z1+1)⟩ (hst q1 (z1+1) hk1.2.1 hk1.2.2 (by omega) (by omega)) (by simp;omega)) rfl rfl|exact z03 (ih1 ⟨k1+1,(q1.set ((k1:Nat):Int).toNat w1).set ((k1:Nat):Int).toNat (w1+1)⟩ (hst _ (w1+1) (by simpa using hk1.2.1) hsw (by omega) (by omega)) (by simp;omega)) rfl rfl)|(exfalso;(try clear ih1);(try clear ih2);(try clear ih3);(try clear hm14);(try clear hm18);(try clear hm25);omega)|((fail_if_success (refine z0k ?_));exfalso;(try clear ih1);(try clear ih2);(try clear ih3);(try clear hm14);(try clear hm18);(try clear hm25);simp_all;done))):p:=h
theorem zD2 {p:Prop} (h:p:=by
 intro ⟨j,cr,rx,kv⟩ ⟨f1,f2,f3⟩ ih3
 simp only at f1 f2 f3 ih3 ⊢
 by_cases hj:j<rg.length
 · obtain⟨y,hy⟩:∃ y,rg[((j:Nat):Int).toNat]? =some y:=by rw[Int.toNat_natCast];exact⟨_,zA0 hj⟩
   repeat' (first|(apply z05;(first|refine z0r ?_| (apply z0c;(first|refine z02 (z7r hy rfl rfl) rfl rfl ?_| refine z02 z1k rfl rfl ?_| refine z02 z3v rfl rfl ?_))|(apply z0d;(refine z02 z1h rfl rfl ?_))|(apply z0o;(refine z02 (z1d rfl (by omega) (by simp;omega) rfl) rfl rfl ?_))|(apply z15;(first|refine z02 (z1a z1y) rfl rfl ?_| refine z02 (z2l z1y) rfl rfl ?_))|(apply z12;(refine z7t _ rfl ?_))|(apply z0n;(refine z26 ?_))|(apply z18;(refine z0g z2g ?_))|(apply z3f;(refine z3h rfl ?_))))|(apply z06;(first|refine z0q ?_|apply z0b|refine z1z ?_| refine z9y rfl rfl (by decide) ?_|refine z14 rfl rfl (fun _=>?_) (fun _=>?_)|refine z3t rfl rfl (fun _=>?_) (fun _=>?_)|refine z7e rfl rfl (fun _=>?_) (fun _=>?_)))|(apply z07;(first|refine z42 22 15 (fun b22=>?_) (fun hm22=>?_)|apply z08|apply z00|apply z09|apply z01|apply z04|refine z0m (fun _=>?_) (fun _=>?_)| refine z1u rfl (fun _=>?_) (fun _=>?_)|refine z0p ?_)))
   all_goals try (exfalso;omega)
   all_goals exact z03 (ih3 ⟨j+1,_,rx,kv⟩ ⟨(by simp only;omega),f2,f3⟩ (by simp only;omega)) rfl rfl
 · repeat' (first|(apply z05;(first|refine z0r ?_| (apply z0c;(refine z02 z3v rfl rfl ?_))|(apply z15;(refine z02 (z2l z1y) rfl rfl ?_))|(apply z12;(refine z7t rx rfl ?_))|(apply z3f;(refine z3h rfl ?_))))|(apply z06;(first|refine z0q ?_|apply z0b))|(apply z07;(first|apply z08|apply z00|apply z09|apply z01|apply z04|refine z0m (fun _=>?_) (fun _=>?_)| refine z1u rfl (fun _=>?_) (fun _=>?_)|refine z0p ?_)))
   all_goals try (exfalso;omega)
   all_goals first
    | exact z03 (ih2 ⟨m-1,rg,kv⟩ ⟨(by simp only;omega),(by simp only;omega),(by simp only;omega),g4,f3⟩ (by simp only;omega)) rfl rfl
    | (refine z4p 165 11 rfl rfl ?_;exact z03 (ih2 ⟨m-1,rg++[rx],kv⟩ ⟨(by simp only;omega),(by simp only;omega),(by simp only[zA8,zAh,List.length_nil];omega),(by intro x hx;rcases zAn.1 hx with hx|hx;exact g4 x hx;simp only[zAa,List.not_mem_nil,or_false] at hx;subst hx;exact f2),f3⟩ (by simp only;omega)) rfl rfl)):p:=h
theorem zD3 {p:Prop} (h:p:=by
 repeat' (first|(apply z05;(first|refine z0r ?_| (apply z0c;(refine z02 z1k rfl rfl ?_))|(apply z0d;(refine z02 z1h rfl rfl ?_))|(apply z15;(refine z02 (z77 rfl) rfl rfl ?_))|(apply z12;(first|refine z02 (z8d rfl) rfl rfl ?_| refine z02 (z0u rfl) rfl rfl ?_| refine z02 (z6o rfl) rfl rfl ?_))|(apply z0n;(refine z26 ?_))|(apply z18;(refine z0g z2g ?_))|(apply z1j;(refine z0g z31 ?_))|(apply z21;(refine z43 ?_))))|(apply z06;(first|refine z0q ?_|apply z0b|refine z1z ?_| refine z14 rfl rfl (fun _=>?_) (fun _=>?_)))|(apply z07;(first|apply z08|apply z00|refine z28 rfl ?_|refine z1c rfl ?_|apply z01|apply z2w|apply z04))|(apply z2t;(first|(apply z1e;refine z2k mix ?_)|(apply z0z;(refine z0y z1k rfl rfl ?_))|(apply z0v;(refine z0y z1h rfl rfl ?_))|(apply z2h;(refine z73 (by first|exact rfl|exact⟨_,rfl,rfl,rfl⟩) rfl rfl rfl rfl rfl rfl ?_)))))
 all_goals first
  | (exfalso;omega)
  | exact z0a Tryz.func60 _ z1m ⟨rfl,rfl⟩
  | (exfalso;simp_all;done)):p:=h
theorem zD4 {p:Prop} (h:p:=by
 obtain rfl:=h1 (by decide);obtain⟨rfl,rfl⟩:=h2 (by decide);obtain rfl:=h3 (by decide)
 repeat' (first|(apply z05;(first|refine z0r ?_| (apply z0c;(refine z02 z1k rfl rfl ?_))|(apply z0d;(refine z02 z1h rfl rfl ?_))|(apply z15;(refine z02 (z77 rfl) rfl rfl ?_))|(apply z12;(first|refine z02 (z8d rfl) rfl rfl ?_| refine z02 (z0u rfl) rfl rfl ?_| refine z02 (z6o rfl) rfl rfl ?_))|(apply z0n;(refine z26 ?_))|(apply z18;(refine z0g z2g ?_))|(apply z1j;(refine z0g z31 ?_))|(apply z21;(refine z43 ?_))))|(apply z06;(first|refine z0q ?_|apply z0b|refine z1z ?_| refine z14 rfl rfl (fun _=>?_) (fun _=>?_)))|(apply z07;(first|apply z08|apply z00|refine z28 rfl ?_|refine z1c rfl ?_|apply z09|apply z01|apply z04)))
 all_goals first
  | (exfalso;omega)
  | exact z0a Tryz.func60 _ z1m ⟨rfl,rfl⟩
  | (exfalso;simp_all;done)):p:=h
theorem zD5 {p:Prop} (h:p:=by
 refine z10 fun H=>?_
 refine z0e Tryz.func58 (by kernel_rfl) rfl (by simp) ?_
 dsimp only[Tryz.f58]
 repeat' (first|(apply z05;(first|refine z0r ?_| (apply z0c;(refine z02 z1k rfl rfl ?_))|(apply z0d;(refine z02 z1h rfl rfl ?_))|(apply z15;(refine z02 (z1a z1y) rfl rfl ?_))|(apply z12;(refine z02 (z6o rfl) rfl rfl ?_))|(apply z1j;(refine z0g z31 ?_))))|(apply z06;(first|refine z0q ?_|apply z0b))|(apply z07;(first|apply z08|apply z00|apply z01)))
 refine z0k ?_
 refine z5v ?_
 repeat' (first|(apply z05;(refine z0r ?_))|(apply z06;(first|refine z0q ?_|apply z0b))|(apply z07;(first|apply z08|apply z00|refine z1c rfl ?_|refine z0p ?_)))
 all_goals first
  | (exfalso;omega)
  | exact z0a Tryz.func58 _ z20 ⟨rfl,rfl⟩):p:=h
theorem zD6 {p:Prop} (h:p:=by
 refine z10 fun H=>?_
 refine z0e Tryz.func57 (by kernel_rfl) rfl (by simp) ?_
 dsimp only[Tryz.f57]
 repeat' (first|(apply z05;(first|refine z0r ?_| (apply z0c;(refine z02 z1k rfl rfl ?_))|(apply z0d;(refine z02 z1h rfl rfl ?_))|(apply z12;(first|refine z02 (z0u rfl) rfl rfl ?_| refine z02 (z6o rfl) rfl rfl ?_))|(apply z1j;(refine z0g z31 ?_))))|(apply z06;(first|refine z0q ?_|apply z0b|refine z1z ?_| refine z14 rfl rfl (fun _=>?_) (fun _=>?_)))|(apply z07;(first|apply z08|apply z00)))
 all_goals first
  | (exfalso;omega)
  | exact z0a Tryz.func57 _ z1m ⟨rfl,rfl⟩):p:=h
theorem zD7 {p:Prop} (h:p:=by
 refine z10 fun H=>?_
 refine z0e Tryz.func69 (by kernel_rfl) rfl (by simp) ?_
 dsimp only[Tryz.f69]
 repeat' (first|(apply z05;(first|refine z0r ?_| (apply z0c;(first|refine z02 z1k rfl rfl ?_| refine z02 z2a rfl rfl ?_))|(apply z0d;(refine z02 z1h rfl rfl ?_))|(apply z0o;(refine z02 (z1p rfl (z5i hv)) rfl rfl ?_))|(apply z0w;(refine z3e hx ?_))|(apply z1j;(refine z0g z31 ?_))))|(apply z06;(first|refine z0q ?_|apply z0b))|(apply z07;(first|apply z08|apply z00|refine z28 rfl ?_)))
 all_goals first
  | exact z0a Tryz.func69 _ z1m ⟨rfl,rfl⟩
  | (exfalso;omega)):p:=h
theorem zD8 {p:Prop} (h:p:=by
 generalize hv:a.tmps.getD t undef=v at hp
 cases hp with
 | ptr _ _ g' hg' =>
  rw[hβ] at hg';simp at hg';subst hg'
  have hlen:cur.length=ti.size:=by rw[← hl,zA4,hs]
  have:=z1n (P:=P) hty g 0 cur w hlen (fun j v hj=>by
   rw[Nat.zero_add,cell_of_row w g j _ tt (0,0) hg];simpa using hj)
  rcases this with h'|h'
  · have hv2:a.tmps[t]?.getD undef=.pointer (some ⟨g,0,none⟩):=by rw[← Array.getD_eq_getD_getElem?];exact hv
    simp[results,h,hv2,asAddr,h',ha]
  · rw[ha] at h';cases h'.1):p:=h
theorem zD9 {p:Prop} (h:p:=by
 simp only[execOp]
 have:(Array.map (fun x:Nat × Operand=>match x with|(i,x)=>(i,a.eval x)) l.toArray)=l.toArray.map fun x=>(x.1,a.eval x.2):=rfl
 rw[this,Sem.run_bind,hrun]
 rfl):p:=h
theorem zD10 {p:Prop} (h:p:=by
 repeat' (first|(apply z05;(first|refine z0r ?_| (apply z0c;(refine z02 z1k rfl rfl ?_))|(apply z0d;(refine z02 z1h rfl rfl ?_))|(apply z12;(refine z02 (z0u rfl) rfl rfl ?_))|(apply z1j;(refine z0g z31 ?_))))|(apply z06;(first|refine z0q ?_|apply z0b|refine z1z ?_| refine z14 rfl rfl (fun _=>?_) (fun _=>?_)))|(apply z07;(first|apply z08|apply z00|refine z28 rfl ?_)))
 all_goals try (exfalso;omega)
 all_goals exact z0a Tryz.func96 _ z1m ⟨by rw[hv],rfl⟩):p:=h
theorem zD11 {p:Prop} (h:p:=by
 obtain rfl:k=l.length:=by omega
 rw[List.drop_length,z41] at hi
 repeat' (first|(apply z05;(refine z0r ?_))|(apply z06;(first|refine z0q ?_|apply z0b))|(apply z07;(first|apply z08|apply z00|apply z09|apply z01|refine z0m (fun _=>?_) (fun _=>?_)| refine z0p ?_)))
 all_goals try (exfalso;omega)
 all_goals exact z0a Tryz.func110 _ z1m ⟨by rw[← hi],rfl⟩):p:=h
theorem zD12 {p:Prop} (h:p:=by
 obtain⟨i,u,z,hi,hu,hz,hs,hb,hk',_⟩:=h.get
 rw[hk] at hk'
 cases u <;> simp[TK.ofD] at hk' <;> simp_all):p:=h
theorem zD13 {p:Prop} (h:p:=by
 have hb:∃ c,fn.body=some c:=by cases hc:fn.body with|none=>rw[hc] at hbody;cases hbody|some c=>exact⟨c,rfl⟩
 obtain⟨c,hb⟩:=hb
 have hname':¬ (fn.name= "runtime.NumGoroutine"):=by simpa using hname
 simp[execOp,resolve,hv,Deferred.ofValue,invoke,callFunc,hfn,hname',hb]):p:=h
theorem zD14 {p:Prop} (h:p:=by
 rw[PV.liftL_get] at hx
 cases hc:cs[j]? with
 | none=>simp[hc] at hx
 | some y=>rw[hc] at hx;simp at hx;subst hx;exact ih j y v hc hv):p:=h
theorem zD15 {p:Prop} (h:p:=by
 obtain⟨h1,h2⟩:=hr
 refine⟨h1,?_⟩
 rcases h2 with h2|⟨g,cap,cur,hv,hb,hg,rest⟩
 · exact .inl h2
 · subst hv
   refine .inr ⟨g,cap,cur,rfl,hb,?_,rest⟩
   rw[(hk rfl g rfl).1];exact hg):p:=h
theorem zD16 {p:Prop} (h:p:=by
 all_goals try (exfalso;omega)
 all_goals first
  | (refine z0a Tryz.func110 _ z1m ⟨?_,rfl⟩;rw[← hi,zAs (by simp_all)])
  | exact z03 (ih (k+1) ⟨by omega,by rw[← hi,zAr (by simp_all)]⟩ (by omega)) rfl rfl):p:=h
theorem zD17 {p:Prop} (h:p:=by
 have e0:(!ls.any (zej c))=true:=by
  rw[zA6,List.any_eq_false]
  intro t ht2
  have:=hin t ht2
  simp only[zej,Bool.or_eq_true,zA3,not_or]
  omega
 rw[e0] at hf;exact hf):p:=h
theorem zD18 {p:Prop} (h:p:=by
 rw[z8y] at hp
 cases hc:cs[j]? with
 | none=>rw[hc] at hp;simp at hp
 | some c=>rw[hc] at hp;simp at hp;subst hp;exact(hd j c v hc hv).ren):p:=h
theorem zD19 {p:Prop} (h:p:=by
 rw[z9a] at hp
 cases hc:cs[j]? with
 | none=>rw[hc] at hp;simp at hp
 | some c=>rw[hc] at hp;simp at hp;subst hp;exact PR.frz hD (hd j c v hc hv)):p:=h
theorem zD20 {p:Prop} (h:p:=by
 have hp:=PR.ref (β:=z49 β d v') (w:=w') (own:=fun g=>own g∨v'.ownBlock=some g) (0,d)
 rw[z1o] at hp
 exact hin.put (dst:=some d) (p:=.ref (0,d)) (by simpa[St.fits] using hd) hp):p:=h
theorem zD21 {p:Prop} (h:p:=by
 all_goals first
  | exact z0a Tryz.func14 _ z1m ⟨rfl,rfl⟩
  | (exfalso;simp_all;done)):p:=h
theorem zD22 {p:Prop} (h:p:=by
 simp only[List.nil_append] at e;subst e
 obtain⟨j,h3,h4,h5⟩:=h2
 exact⟨j,.inr ⟨h1,h3⟩,h4,(z64 hab hFb hla w j (hfb j h3)).2 h5⟩):p:=h
theorem zD23 {p:Prop} (h:p:=by
 cases v with
 | slice a l c=>cases a <;> simp[Value.ownBlock] at hg;subst hg;exact(hk rfl _ rfl).2
 | _=>simp[Value.ownBlock] at hg):p:=h
theorem zD24 {p:Prop} (h:p:=by
 rcases hr.2 with h2|⟨g,cap,cur,hv,hb,hg,rest⟩
 · exact .inl h2
 · exact .inr ⟨g,cap,cur,hv,hb,h.cell hg (by simp),rest⟩):p:=h
theorem zD25 {p:Prop} (h:p:=by
 rcases hr.2 with h|⟨g',cap,cur,hv,_⟩
 · rw[h.1] at hg;simp[z1g] at hg
 · subst hv;simp[z1g] at hg;subst hg;exact ho _ rfl):p:=h
theorem zD26 {p:Prop} (h:p:=by
 exact⟨fun m b hb=>hr.heap.blk m b (key m b hb),fun m1 m2 b1 b2 h1 h2=>hr.heap.inj m1 m2 b1 b2 (key _ _ h1) (key _ _ h2),hr.heap.lt⟩):p:=h
theorem zD27 {p:Prop} (h:p:=by
 rcases this with h|h
 · simp only[execOp,hv,Instr.loadAt,Instr.sureAddr];simp[h,ha]
 · exact absurd hs h.2):p:=h
theorem zD28 {p:Prop} (h:p:=by
 simp only[zAn] at hq
 rcases hq with hq|hq
 · exact hg.agrees q hq
 · exact z2e hz0 q hq):p:=h
theorem zD29 {p:Prop} (h:p:=by
 obtain⟨b1,h1,l1⟩:=hm x bx hx lx
 obtain⟨b2,h2,l2⟩:=hm y by' hy ly
 exact h.inj x y b1 b2 h1 h2 l1 l2 hne g' hg'):p:=h
theorem zD30 {p:Prop} (h:p:=by
 subst hxs
 refine⟨_,_,?_,(RowKit.Below.refl _ _).alloc (zAg _) _,.d _ _ (z8z hr.heap.lt hcr hvl e)⟩
 exact zD9):p:=h
theorem zD31 {p:Prop} (h:p:=by
 all_goals first
  | (exfalso;omega)
  | exact z0a Tryz.func60 _ z1m ⟨rfl,rfl⟩
  | (exfalso;simp_all;done)):p:=h
theorem zD32 {p:Prop} (h:p:=by
 simp at hx;subst hx
 exact⟨h5,by simp only;omega,h3,h4,.inl rfl,by simp only;omega,by simp only;omega⟩):p:=h
