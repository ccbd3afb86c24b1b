/- A part of the proof: T27 to T32. -/
import Derived.Test.YtonhfccmeammbaaGreatDoorOTB
import Derived.Test.YtonhfccmeammbaaGreatDoorOTA
import Derived.Test.YtonhfccmeammbaaGreatDoorOb
set_option linter.all false
namespace Go.Proofs.YtonhfccmeammbaaGreatDoor
open Go.Ab
set_option maxHeartbeats 20000000
attribute [local irreducible] Run Ops Op1 z1r Val Tr z0j z2f NF Rel
theorem zh4 (l:List Node) (c:z0i) (hc:Small c) (hl:l.length≤1000000) (hs:∀ x∈l,x.label.size≤1000000) (hp:∀ (i:Nat) (x:Node),l[i]? =some x→-1≤x.parent∧x.parent<i):NF Tryz.prog 117 [.d (.slice (l.map Node.cs)),c.d] zis:=by
 refine z33 fun H=>?_
 refine z0e Tryz.func117 (by kernel_rfl) rfl (by simp) ?_
 dsimp only[Tryz.f117]
 repeat' (first|(apply z05;(first|refine z0r ?_| (apply z12;(refine z02 (z0u rfl) rfl rfl ?_))|(apply z1j;(refine z0g z31 ?_))|(apply zgr;(refine zgl (xs:=(List.replicate l.length 0).map fun x=>[z3b x]) rfl rfl (by omega) (by omega) rfl rfl rfl (by decide) (by simp) ?_))))|(apply z06;(first|refine z0q ?_|(apply z22;refine z23 [0,1,3,4,5,6,7,8,9,10,11,14,18,19,20,21,25,31,49,61,65,82,95,105,113,125,100500,100501] (by repeat' (first|exact z1f.nil|apply z1f.yes rfl|apply z1f.no)) (by repeat' (first|exact z0f.nil|apply z0f.old rfl|apply z0f.gone|apply z0f.new rfl)) ?_)))|(apply z07;(first|apply z08|apply z00|apply z09|apply z01|refine z0m (fun _=>?_) (fun _=>?_))))
 all_goals try (first|exact z0a Tryz.func117 _ z20 ⟨_,rfl,⟨_,_,rfl⟩,rfl⟩|(exfalso;(try clear ih1);(try clear ih2);(try clear ih3);(try clear hm14);(try clear hm18);(try clear hm25);omega)|((fail_if_success (refine z0k ?_));exfalso;(try clear ih1);(try clear ih2);(try clear ih3);(try clear hm14);(try clear hm18);(try clear hm25);simp_all;done))
 all_goals
  refine z0k ?_
  refine z03 (z1x (fun q:Nat × List Int=>⟨128,[(0,PV.lift 1 (PV.d (D.slice (List.map Node.cs l)))),(3,PV.ptr (0,3) 0),(6,PV.ref (0,17)),(18,PV.lift 1 (PV.d (D.slice (List.map Node.cs l)))),(19,I IntKind.i64 (↑l.length:Int)),(20,I .i64 (q.1:Nat))],[(3,Blk.box (List.map PV.d c.cs)),(17,.row 3 1 (q.2.map fun x=>[z3b x]))],H⟩) (fun q:Nat × List Int=>q.1≤l.length∧q.2.length=l.length∧(∀ x∈q.2,0≤x∧x≤q.1)) (fun q:Nat × List Int=>l.length-q.1) ?_ ⟨0,List.replicate l.length 0⟩ ⟨zAc _,by simp,by simp⟩) rfl rfl
  intro ⟨k1,q1⟩ hk1 ih1
  simp only at hk1 ih1 ⊢
  by_cases hlt1:k1<l.length
  case pos =>
   obtain⟨x1,hx1⟩:∃ x,l[k1]? =some x:=⟨_,zA0 (by omega)⟩
   have hn1:=hs x1 (zA2 hx1)
   have hp1:=hp k1 x1 hx1
   obtain⟨z1,hz1⟩:∃ x,q1[((k1:Nat):Int).toNat]? =some x:=⟨_,zA0 (by omega)⟩
   obtain⟨w1,hw1⟩:∃ x,q1[x1.parent.toNat]? =some x:=⟨_,zA0 (by omega)⟩
   have hbz:=hk1.2.2 z1 (zA2 hz1)
   have hbw:=hk1.2.2 w1 (zA2 hw1)
   have hzs:∀ (L:List Int) (v:Int),L.length=l.length→(L.set ((k1:Nat):Int).toNat v)[((k1:Nat):Int).toNat]? =some v:=fun L v hL=>zAl (by omega)
   have hst:∀ (L:List Int) (v:Int),L.length=l.length→(∀ x∈L,0≤x∧x≤(k1:Int))→0≤v→v≤(k1:Int)+1→k1+1≤l.length∧(L.set ((k1:Nat):Int).toNat v).length=l.length∧(∀ x∈L.set ((k1:Nat):Int).toNat v,0≤x∧x≤((k1+1:Nat):Int)):=fun L v hL hx h0 h1=>⟨by omega,by simpa using hL,fun x hm=>by rcases List.mem_or_eq_of_mem_set hm with hm|rfl;(have:=hx x hm;omega);omega⟩
   have hsw:∀ x∈q1.set ((k1:Nat):Int).toNat w1,0≤x∧x≤(k1:Int):=fun x hm=>by rcases List.mem_or_eq_of_mem_set hm with hm|rfl;exact hk1.2.2 x hm;omega
   repeat' (first|(apply z05;(first|refine z0r ?_| (apply z0c;(first|refine z02 z2u rfl rfl ?_| refine z02 z1k rfl rfl ?_| refine z02 (z1t rfl rfl) rfl rfl ?_))|(apply z0d;(refine z02 z1h rfl rfl ?_))|(apply z0o;(refine z02 (z1p rfl (idx hx1)) rfl rfl ?_))|(apply z15;(refine z02 (z2l z1y) rfl rfl ?_))|(apply z0w;(first|(refine z4n (z36 _ (by omega)) rfl (by decide) (fun p hp=>?_);obtain⟨_,rfl⟩:=hp)|(refine z4n (zb8 _ _ _ hc) rfl (by decide) (fun p hp=>?_);obtain⟨_,rfl⟩:=hp)))|(apply z0n;(refine z26 ?_))|(apply z18;(refine z0g z2g ?_))))|(apply z06;(first|refine z0q ?_|(apply z22;refine z23 [0,1,3,4,5,6,7,8,9,10,11,14,18,19,20,21,25,31,49,61,65,82,95,105,113,125,100500,100501] (by repeat' (first|exact z1f.nil|apply z1f.yes rfl|apply z1f.no)) (by repeat' (first|exact z0f.nil|apply z0f.old rfl|apply z0f.gone|apply z0f.new rfl)) ?_)))|(apply z07;(first|apply z08|apply z00|apply z09|apply z01|apply z04|refine z0m (fun _=>?_) (fun _=>?_)| refine z1u rfl (fun _=>?_) (fun _=>?_)|refine z0p ?_)))
   all_goals try (first|exact z0a Tryz.func117 _ z20 ⟨_,rfl,⟨_,_,rfl⟩,rfl⟩|(first|exact z03 (ih1 ⟨k1+1,q1.set ((k1:Nat):Int).toNat (z1+1)⟩ (hst q1 (z1+1) hk1.2.1 hk1.2.2 (by omega) (by omega)) (by simp;omega)) rfl rfl|exact z03 (ih1 ⟨k1+1,(q1.set ((k1:Nat):Int).toNat w1).set ((k1:Nat):Int).toNat (w1+1)⟩ (hst _ (w1+1) (by simpa using hk1.2.1) hsw (by omega) (by omega)) (by simp;omega)) rfl rfl)|(exfalso;(try clear ih1);(try clear ih2);(try clear ih3);(try clear hm14);(try clear hm18);(try clear hm25);omega)|((fail_if_success (refine z0k ?_));exfalso;(try clear ih1);(try clear ih2);(try clear ih3);(try clear hm14);(try clear hm18);(try clear hm25);simp_all;done))
   all_goals
    refine z0k ?_
    refine z03 (z1x (fun m2_9:Int=>⟨128,[(0,PV.lift 1 (PV.d (D.slice (List.map Node.cs l)))),(3,PV.ptr (0,3) 0),(6,PV.ref (0,17)),(7,I IntKind.i64 (↑k1:Int)),(8,PV.ptr (0,8) 0),(9,I .i64 m2_9),(18,PV.lift 1 (PV.d (D.slice (List.map Node.cs l)))),(19,I IntKind.i64 (↑l.length:Int)),(20,I IntKind.i64 (↑k1:Int))],[(8,Blk.box (z0l (z3g ({ size:=4,bytes:=40,kind:=TK.struct,fields:=[(0,1),(1,1),(2,1),(3,1)],zero:=[Value.string { data:=#[] },Value.int IntKind.i64 0,Value.int IntKind.i64 0,Value.int IntKind.i64 0] }:TI).zero) 0 (List.map PV.d x1.cs))),(3,Blk.box (List.map PV.d c.cs)),(17,Blk.row 3 1 (List.map (fun x=>[z3b x]) q1))],H⟩) (fun m2_9:Int=> -1≤m2_9∧m2_9<k1) (fun m2_9:Int=>(m2_9+1).toNat) ?_ ((k1:Int)-1) (by omega)) rfl rfl
    intro m2_9 hk2 ih2
    obtain⟨pp,hpp⟩:∃ x,l[x1.parent.toNat]? =some x:=⟨_,zA0 (by omega)⟩
    by_cases hlt2:0≤m2_9∧m2_9≠x1.parent
    case pos =>
     obtain⟨x2,hx2⟩:∃ x,l[m2_9.toNat]? =some x:=⟨_,zA0 (by omega)⟩
     have hp2:=hp _ x2 hx2
     repeat' (first|(apply z05;(first|refine z0r ?_| (apply z0c;(first|refine z02 (z1i hw1 rfl rfl rfl) rfl rfl ?_| refine z02 z1k rfl rfl ?_| refine z02 z2a rfl rfl ?_| refine z02 (z1t rfl rfl) rfl rfl ?_))|(apply z0d;(first|refine z02 z1h rfl rfl ?_| refine z02 (z58 rfl rfl) rfl rfl ?_))|(apply z0o;(first|refine z02 (z1d rfl (by omega) (by simp;omega) rfl) rfl rfl ?_| refine z02 (z1p rfl (z5i hpp)) rfl rfl ?_| refine z02 (z1p rfl (z5i hx2)) rfl rfl ?_))|(apply z15;(refine z02 (z2l z1y) rfl rfl ?_))|(apply z0n;(first|refine z1b w1 (by rfl) (by rfl) (by rfl) (by rfl) hz1 (by rfl) (by rfl) (by rfl) (by rfl) ?_|refine z26 ?_))|(apply z18;(refine z0g z2g ?_))))|(apply z06;(first|refine z0q ?_|(apply z22;refine z23 [0,1,3,4,5,6,7,8,9,10,11,14,18,19,20,21,25,31,49,61,65,82,95,105,113,125,100500,100501] (by repeat' (first|exact z1f.nil|apply z1f.yes rfl|apply z1f.no)) (by repeat' (first|exact z0f.nil|apply z0f.old rfl|apply z0f.gone|apply z0f.new rfl)) ?_)|refine z1z ?_| refine z14 rfl rfl (fun _=>?_) (fun _=>?_)))|(apply z07;(first|(refine z6n (b:= ?_) hm14 ?_ ?_ ?_;rotate_left;(exact rfl);(exact rfl);(exact rfl))|(refine z6n (b:= ?_) hm18 ?_ ?_ ?_;rotate_left;(exact rfl);(exact rfl);(exact rfl))|refine z42 14 61 (fun b14=>?_) (fun hm14=>?_)|refine z42 18 82 (fun b18=>?_) (fun hm18=>?_)|apply z08|apply z00|refine z1c rfl ?_|apply z09|apply z01|apply z04|refine z0m (fun _=>?_) (fun _=>?_)| refine z3r rfl (fun _=>?_) (fun _=>?_)|refine z1u rfl (fun _=>?_) (fun _=>?_)|refine z0p ?_)))
     all_goals try (first|exact z0a Tryz.func117 _ z20 ⟨_,rfl,⟨_,_,rfl⟩,rfl⟩|exact z03 (ih2 x2.parent (by omega) (by omega)) rfl rfl|(first|exact z03 (ih1 ⟨k1+1,q1.set ((k1:Nat):Int).toNat (z1+1)⟩ (hst q1 (z1+1) hk1.2.1 hk1.2.2 (by omega) (by omega)) (by simp;omega)) rfl rfl|exact z03 (ih1 ⟨k1+1,(q1.set ((k1:Nat):Int).toNat w1).set ((k1:Nat):Int).toNat (w1+1)⟩ (hst _ (w1+1) (by simpa using hk1.2.1) hsw (by omega) (by omega)) (by simp;omega)) rfl rfl)|(exfalso;(try clear ih1);(try clear ih2);(try clear ih3);(try clear hm14);(try clear hm18);(try clear hm25);omega)|((fail_if_success (refine z0k ?_));exfalso;(try clear ih1);(try clear ih2);(try clear ih3);(try clear hm14);(try clear hm18);(try clear hm25);simp_all;done))
    case neg =>
     repeat' (first|(apply z05;(first|refine z0r ?_| (apply z0c;(first|refine z02 (z1i hw1 rfl rfl rfl) rfl rfl ?_| refine z02 z1k rfl rfl ?_| refine z02 (z1t rfl rfl) rfl rfl ?_))|(apply z0d;(refine z02 z1h rfl rfl ?_))|(apply z0o;(first|refine z02 (z1d rfl (by omega) (by simp;omega) rfl) rfl rfl ?_| refine z02 (z1p rfl (z5i hpp)) rfl rfl ?_))|(apply z15;(refine z02 (z2l z1y) rfl rfl ?_))|(apply z0n;(first|refine z1b w1 (by rfl) (by rfl) (by rfl) (by rfl) hz1 (by rfl) (by rfl) (by rfl) (by rfl) ?_|refine z26 ?_))|(apply z18;(refine z0g z2g ?_))))|(apply z06;(first|refine z0q ?_|(apply z22;refine z23 [0,1,3,4,5,6,7,8,9,10,11,14,18,19,20,21,25,31,49,61,65,82,95,105,113,125,100500,100501] (by repeat' (first|exact z1f.nil|apply z1f.yes rfl|apply z1f.no)) (by repeat' (first|exact z0f.nil|apply z0f.old rfl|apply z0f.gone|apply z0f.new rfl)) ?_)|refine z1z ?_| refine z14 rfl rfl (fun _=>?_) (fun _=>?_)))|(apply z07;(first|(refine z6n (b:= ?_) hm14 ?_ ?_ ?_;rotate_left;(exact rfl);(exact rfl);(exact rfl))|(refine z6n (b:= ?_) hm18 ?_ ?_ ?_;rotate_left;(exact rfl);(exact rfl);(exact rfl))|refine z42 14 61 (fun b14=>?_) (fun hm14=>?_)|refine z42 18 82 (fun b18=>?_) (fun hm18=>?_)|apply z08|apply z00|refine z1c rfl ?_|apply z09|apply z01|refine z0m (fun _=>?_) (fun _=>?_)| refine z3r rfl (fun _=>?_) (fun _=>?_)|refine z1u rfl (fun _=>?_) (fun _=>?_)|refine z0p ?_)))
     all_goals try (first|exact z0a Tryz.func117 _ z20 ⟨_,rfl,⟨_,_,rfl⟩,rfl⟩|(first|exact z03 (ih1 ⟨k1+1,q1.set ((k1:Nat):Int).toNat (z1+1)⟩ (hst q1 (z1+1) hk1.2.1 hk1.2.2 (by omega) (by omega)) (by simp;omega)) rfl rfl|exact z03 (ih1 ⟨k1+1,(q1.set ((k1:Nat):Int).toNat w1).set ((k1:Nat):Int).toNat (w1+1)⟩ (hst _ (w1+1) (by simpa using hk1.2.1) hsw (by omega) (by omega)) (by simp;omega)) rfl rfl)|(exfalso;(try clear ih1);(try clear ih2);(try clear ih3);(try clear hm14);(try clear hm18);(try clear hm25);omega)|((fail_if_success (refine z0k ?_));exfalso;(try clear ih1);(try clear ih2);(try clear ih3);(try clear hm14);(try clear hm18);(try clear hm25);simp_all;done))
     · exact zD1
     · exact zD1
     · skip
       refine z0k ?_
       refine z03 (z1x (fun m3_11:Int=>⟨128,[(0,PV.lift 1 (PV.d (D.slice (List.map Node.cs l)))),(3,PV.ptr (0,3) 0),(6,PV.ref (0,17)),(7,I IntKind.i64 (↑k1:Int)),(8,PV.ptr (0,8) 0),(11,I .i64 m3_11),(18,PV.lift 1 (PV.d (D.slice (List.map Node.cs l)))),(19,I IntKind.i64 (↑l.length:Int)),(20,I IntKind.i64 (↑k1:Int))],[(8,Blk.box (z0l (z3g ({ size:=4,bytes:=40,kind:=TK.struct,fields:=[(0,1),(1,1),(2,1),(3,1)],zero:=[Value.string { data:=#[] },Value.int IntKind.i64 0,Value.int IntKind.i64 0,Value.int IntKind.i64 0] }:TI).zero) 0 (List.map PV.d x1.cs))),(3,Blk.box (List.map PV.d c.cs)),(17,Blk.row 3 1 (List.map (fun x=>[z3b x]) q1))],H⟩) (fun m3_11:Int=> -1≤m3_11∧m3_11<k1) (fun m3_11:Int=>(m3_11+1).toNat) ?_ ((k1:Int)-1) (by omega)) rfl rfl
       intro m3_11 hk3 ih3
       by_cases hlt3:0≤m3_11
       case pos =>
        obtain⟨x3,hx3⟩:∃ x,l[m3_11.toNat]? =some x:=⟨_,zA0 (by omega)⟩
        repeat' (first|(apply z05;(first|refine z0r ?_| (apply z0c;(first|refine z02 (z1i hz1 rfl rfl rfl) rfl rfl ?_| refine z02 (z1i (hzs _ _ (by simpa using hk1.2.1)) rfl rfl rfl) rfl rfl ?_))|(apply z0o;(refine z02 (z1d rfl (by omega) (by simp;omega) rfl) rfl rfl ?_))|(apply z15;(first|refine z02 (z1a z1y) rfl rfl ?_| refine z02 (z2l z1y) rfl rfl ?_))|(apply z0n;(refine z1b (z1+1) (by rfl) (by rfl) (by rfl) (by rfl) hz1 (by rfl) (by rfl) (by rfl) (by rfl) ?_))))|(apply z06;(first|refine z0q ?_|(apply z22;refine z23 [0,1,3,4,5,6,7,8,9,10,11,14,18,19,20,21,25,31,49,61,65,82,95,105,113,125,100500,100501] (by repeat' (first|exact z1f.nil|apply z1f.yes rfl|apply z1f.no)) (by repeat' (first|exact z0f.nil|apply z0f.old rfl|apply z0f.gone|apply z0f.new rfl)) ?_)))|(apply z07;(first|(refine z6n (b:= ?_) hm25 ?_ ?_ ?_;rotate_left;(exact rfl);(exact rfl);(exact rfl))|refine z90 25 113 (fun b25=>?_) (fun hm25=>?_)|apply z08|apply z00|apply z09|apply z01|apply z2w|apply z04|refine z0m (fun _=>?_) (fun _=>?_)| refine z1u rfl (fun _=>?_) (fun _=>?_)|refine z0p ?_))|(apply z2t;(first|(apply z1e;refine z51 [0,1,3,4,5,6,7,8,9,10,11,14,18,19,20,21,25,31,49,61,65,82,95,105,113,125,100500,100501] mix (by kernel_rfl) (by repeat' (first|exact z1f.nil|apply z1f.yes rfl|apply z1f.no)) (by repeat' (first|exact z0f.nil|apply z0f.old rfl|apply z0f.gone|apply z0f.new rfl)) ?_)|refine z34 ?_| (apply z0z;(first|refine z0y z1k rfl rfl ?_| refine z0y z2a rfl rfl ?_))|(apply z0v;(first|refine z0y z1h rfl rfl ?_| refine z0y (z58 rfl rfl) rfl rfl ?_))|(apply z1l;(refine z0y (z1p rfl (z5i hx3)) rfl rfl ?_)))))
        all_goals try (first|exact z0a Tryz.func117 _ z20 ⟨_,rfl,⟨_,_,rfl⟩,rfl⟩|exact z03 (ih3 (m3_11-1) (by omega) (by omega)) rfl rfl|(first|exact z03 (ih1 ⟨k1+1,q1.set ((k1:Nat):Int).toNat (z1+1)⟩ (hst q1 (z1+1) hk1.2.1 hk1.2.2 (by omega) (by omega)) (by simp;omega)) rfl rfl|exact z03 (ih1 ⟨k1+1,(q1.set ((k1:Nat):Int).toNat w1).set ((k1:Nat):Int).toNat (w1+1)⟩ (hst _ (w1+1) (by simpa using hk1.2.1) hsw (by omega) (by omega)) (by simp;omega)) rfl rfl)|(exfalso;(try clear ih1);(try clear ih2);(try clear ih3);(try clear hm14);(try clear hm18);(try clear hm25);omega)|((fail_if_success (refine z0k ?_));exfalso;(try clear ih1);(try clear ih2);(try clear ih3);(try clear hm14);(try clear hm18);(try clear hm25);simp_all;done))
       case neg =>
        repeat' (first|(apply z05;(first|refine z0r ?_| (apply z0c;(first|refine z02 (z1i hz1 rfl rfl rfl) rfl rfl ?_| refine z02 (z1i (hzs _ _ (by simpa using hk1.2.1)) rfl rfl rfl) rfl rfl ?_))|(apply z0o;(refine z02 (z1d rfl (by omega) (by simp;omega) rfl) rfl rfl ?_))|(apply z15;(refine z02 (z1a z1y) rfl rfl ?_))|(apply z0n;(refine z1b (z1+1) (by rfl) (by rfl) (by rfl) (by rfl) hz1 (by rfl) (by rfl) (by rfl) (by rfl) ?_))))|(apply z06;(first|refine z0q ?_|(apply z22;refine z23 [0,1,3,4,5,6,7,8,9,10,11,14,18,19,20,21,25,31,49,61,65,82,95,105,113,125,100500,100501] (by repeat' (first|exact z1f.nil|apply z1f.yes rfl|apply z1f.no)) (by repeat' (first|exact z0f.nil|apply z0f.old rfl|apply z0f.gone|apply z0f.new rfl)) ?_)))|(apply z07;(first|apply z08|apply z00|apply z09|apply z01|apply z2w|apply z04|refine z0m (fun _=>?_) (fun _=>?_)| refine z0p ?_))|(apply z2t;(refine z34 ?_)))
        all_goals try (first|exact z0a Tryz.func117 _ z20 ⟨_,rfl,⟨_,_,rfl⟩,rfl⟩|(first|exact z03 (ih1 ⟨k1+1,q1.set ((k1:Nat):Int).toNat (z1+1)⟩ (hst q1 (z1+1) hk1.2.1 hk1.2.2 (by omega) (by omega)) (by simp;omega)) rfl rfl|exact z03 (ih1 ⟨k1+1,(q1.set ((k1:Nat):Int).toNat w1).set ((k1:Nat):Int).toNat (w1+1)⟩ (hst _ (w1+1) (by simpa using hk1.2.1) hsw (by omega) (by omega)) (by simp;omega)) rfl rfl)|(exfalso;(try clear ih1);(try clear ih2);(try clear ih3);(try clear hm14);(try clear hm18);(try clear hm25);omega)|((fail_if_success (refine z0k ?_));exfalso;(try clear ih1);(try clear ih2);(try clear ih3);(try clear hm14);(try clear hm18);(try clear hm25);simp_all;done))
  case neg =>
   repeat' (first|(apply z05;(refine z0r ?_))|(apply z06;(first|refine z0q ?_|(apply z22;refine z23 [0,1,3,4,5,6,7,8,9,10,11,14,18,19,20,21,25,31,49,61,65,82,95,105,113,125,100500,100501] (by repeat' (first|exact z1f.nil|apply z1f.yes rfl|apply z1f.no)) (by repeat' (first|exact z0f.nil|apply z0f.old rfl|apply z0f.gone|apply z0f.new rfl)) ?_)))|(apply z07;(first|apply z08|apply z00|apply z09|apply z01|refine z0m (fun _=>?_) (fun _=>?_)| refine z0p ?_)))
   all_goals try (first|exact z0a Tryz.func117 _ z20 ⟨_,rfl,⟨_,_,rfl⟩,rfl⟩|(exfalso;(try clear ih1);(try clear ih2);(try clear ih3);(try clear hm14);(try clear hm18);(try clear hm25);omega)|((fail_if_success (refine z0k ?_));exfalso;(try clear ih1);(try clear ih2);(try clear ih3);(try clear hm14);(try clear hm18);(try clear hm25);simp_all;done))
def zl0 (p:PV):Prop:=∃ i j e:Int,p=.tup [I .i64 i,I .i64 j,I .i64 e]
theorem zav (c:z0i) (hc:Small c) (hp:∀ (i:Nat) (x:Node),c.nodes[i]? =some x→-1≤x.parent∧x.parent<i):NF Tryz.prog 86 [c.d] zl0:=by
 refine z33 fun H=>?_
 refine z0e Tryz.func86 (by kernel_rfl) rfl (by simp) ?_
 dsimp only[Tryz.f86]
 repeat' (first|(apply z05;(first|refine z0r ?_| (apply z0c;(first|refine z02 z2u rfl rfl ?_| refine z02 z1k rfl rfl ?_))|(apply z0d;(refine z02 z1h rfl rfl ?_))|(apply z0w;(first|(refine z4n (z9q _ hc.nattrs hc.attr) rfl (by decide) (fun p hp=>?_);obtain⟨_,_,rfl⟩:=hp)|(refine z4n (zes _ hc) rfl (by decide) (fun p hp=>?_);obtain⟨_,_,rfl⟩:=hp)|(refine z4n (zhf _ hc) rfl (by decide) (fun p hp=>?_);obtain⟨_,_,rfl⟩:=hp)|(refine z4n (zdp _ hc) rfl (by decide) (fun p hp=>?_);obtain⟨_,_,rfl⟩:=hp)|(refine z4n (zh4 _ _ hc hc.nnodes (fun x hx=>(hc.node x hx).1) hp) rfl (by decide) (fun p hp=>?_);obtain⟨_,_,rfl⟩:=hp)|(refine z4n (zi6 _ hc) rfl (by decide) (fun p hp=>?_);obtain⟨_,_,rfl⟩:=hp)))|(apply z1j;(refine z0g z31 ?_))))|(apply z06;(first|refine z0q ?_|(apply z22;refine z23 [0,1,2,3,4,5,6,7,8,9,10,11,12,13,14,15,16,24,33,42,51,62,71,100500,100501] (by repeat' (first|exact z1f.nil|apply z1f.yes rfl|apply z1f.no)) (by repeat' (first|exact z0f.nil|apply z0f.old rfl|apply z0f.gone|apply z0f.new rfl)) ?_)))|(apply z07;(first|apply z08|apply z00|apply z09|refine z3r rfl (fun _=>?_) (fun _=>?_))))
 all_goals try (first|exact z0a Tryz.func86 _ (zds rfl rfl rfl rfl) ⟨_,rfl,⟨_,_,_,rfl⟩,rfl⟩|(exfalso;(try clear hzz);omega)|((fail_if_success (refine z0k ?_));exfalso;(try clear hzz);simp_all;done))
theorem zbr (c:z0i) (hc:Small c) (hp:∀ (i:Nat) (x:Node),c.nodes[i]? =some x→-1≤x.parent∧x.parent<i):NF Tryz.prog 53 [c.d] IsB:=by
 refine z33 fun H=>?_
 refine z0e Tryz.func53 (by kernel_rfl) rfl (by simp) ?_
 dsimp only[Tryz.f53]
 repeat' (first|(apply z05;(first|refine z0r ?_| (apply z0c;(refine z02 z2u rfl rfl ?_))|(apply z0w;((refine z4n (zav c hc hp) rfl (by decide) (fun p hp=>?_);obtain⟨_,_,_,rfl⟩:=hp)))|(apply z1j;(refine z0g z31 ?_))))|(apply z06;(first|refine z0q ?_|(apply z22;refine z23 [0,1,2,5,100500,100501] (by repeat' (first|exact z1f.nil|apply z1f.yes rfl|apply z1f.no)) (by repeat' (first|exact z0f.nil|apply z0f.old rfl|apply z0f.gone|apply z0f.new rfl)) ?_)))|(apply z07;(first|apply z08|apply z00)))
 all_goals try (first|exact z0a Tryz.func53 _ z1m ⟨_,rfl,⟨_,rfl⟩,rfl⟩|(exfalso;(try clear hzz);omega)|((fail_if_success (refine z0k ?_));exfalso;(try clear hzz);simp_all;done))
end Go.Proofs.YtonhfccmeammbaaGreatDoor
namespace Go.Proofs.YtonhfccmeammbaaGreatDoor
open Go.Ab
set_option maxHeartbeats 2000000
attribute [local irreducible] Run Ops Op1 z1r Val Tr z0j z2f
def z1w (l:List Int) (k:Nat):Blk:=.box [.d (ints l),I .i64 k]
theorem zkk (l:List Int) (hl:l.length≤9223372036854775807):∀ H,Ab.Spec Tryz.prog 9 [.d (ints l)] H (fun r H'=>r=.new (z1w (l.take 120) 0)∧H'=H):=by
 intro H
 refine z0e Tryz.func9 (by kernel_rfl) rfl (by simp) ?_
 dsimp only[Tryz.f9]
 by_cases h:l.length≤120
 · repeat' (first|(apply z05;(first|refine z0r ?_| (apply z12;(refine z02 (z0u rfl) rfl rfl ?_))|(apply z1j;(refine z0g z31 ?_))|(apply z21;(refine z43 ?_))))|(apply z06;(first|refine z0q ?_|apply z0b))|(apply z07;(first|apply z08|apply z00|apply z09|refine z0m (fun _=>?_) (fun _=>?_))))
   · rename_i h2;omega
   · refine z0a Tryz.func9 _ (zdo (qs:=[.d (ints l),I .i64 0]) rfl rfl rfl rfl) ⟨?_,rfl⟩
     rw[List.take_of_length_le h];rfl
 · repeat' (first|(apply z05;(first|refine z0r ?_| (apply z62;(refine z02 (z45 rfl (by omega) (by omega) (fun _=>rfl)) rfl rfl ?_))|(apply z12;(refine z02 (z0u rfl) rfl rfl ?_))|(apply z1j;(refine z0g z31 ?_))|(apply z21;(refine z43 ?_))))|(apply z06;(first|refine z0q ?_|apply z0b))|(apply z07;(first|apply z08|apply z00|apply z09|refine z0m (fun _=>?_) (fun _=>?_))))
   · refine z0a Tryz.func9 _ (zdo (qs:=[.d (ints (l.take 120)),I .i64 0]) rfl rfl rfl rfl) ⟨?_,rfl⟩
     rfl
   · rename_i h2;omega
def z3d (l:List Int) (k:Nat) (n:Int):Int:=match l[k]? with
 | some x=>zdj x n
 | none=>0
def z1q (l:List Int) (k:Nat):Nat:=if k<l.length then k+1 else k
theorem z4v (l:List Int) (k:Nat) (n:Int) (dd m:Nat) (hl:l.length≤120) (hk:k≤120) (hn:-9223372036854775808≤n∧n≤9223372036854775807) :
 z2f Tryz.prog 26 [.ptr (dd,m) 0,I .i64 n] [((dd,m),z1w l k)] [((dd,m),z1w l (z1q l k))] (I .i64 (z3d l k n)):=by
 refine z5e fun H hH=>?_
 have hH0:=hH ((dd,m),z1w l k) (by simp)
 refine z0e Tryz.func26 (by kernel_rfl) rfl (by simp) ?_
 dsimp only[Tryz.f26]
 repeat' (first|(apply z05;(refine z0r ?_))|(apply z06;(first|refine z0q ?_|apply z0b))|(apply z07;(first|apply z08|apply z00|apply z2w))|(apply z2t;(first|refine z34 ?_| (apply z0v;(refine z0y z1h rfl rfl ?_)))))
 repeat' (first|(apply z05;(first|refine z0r ?_| (apply z0d;(refine z02 z1h rfl rfl ?_))))|(apply z06;(first|refine z0q ?_|apply z0b))|(apply z07;(first|apply z08|apply z00|apply z09|refine z0m (fun _=>?_) (fun _=>?_)))|(apply z2t;(first|(apply z1e;refine z2k mix ?_)|refine z34 ?_| (apply z0z;(refine z0y (z1k (b:=z1w l k)) rfl (bk1 hH0) ?_))|(apply z0v;(refine z0y z1h rfl rfl ?_))|(apply z2r;(refine z0y (z0u rfl) rfl rfl ?_)))))
 skip
 · rename_i hlt
   refine z0a Tryz.func26 _ z1m ⟨?_,?_⟩
   · simp[z3d,zAo (l:=l) (i:=k) (by omega)]
   · rw[z1q,zAr (by omega)];exact(zgk hH0).symm
 · rename_i hlt
   obtain⟨x,hx⟩:∃ x,l[k]? =some x:=⟨_,zA0 (by omega)⟩
   repeat' (first|(apply z05;(first|refine z0r ?_| (apply z0c;(refine z02 (z1k (b:=z1w l k)) rfl (bk1 hH0) ?_))|(apply z0d;(refine z02 z1h rfl rfl ?_))|(apply z15;(refine z02 (z1a z1y) rfl rfl ?_))|(apply z0n;(refine zfa (raw:=z1w l k) (raw':=z1w l (k+1)) rfl hH0 rfl rfl rfl rfl rfl rfl ?_))))|(apply z06;(first|refine z0q ?_|apply z0b))|(apply z07;(first|apply z08|apply z2w))|(apply z2t;(first|refine z34 ?_| (apply z0v;(refine z0y z1h rfl rfl ?_)))))
   have hidx:(l.map fun x=>[z3b x])[(((k+1:Nat):Int)-1).toNat]? =some [z3b x]:=by
    rw[show (((k+1:Nat):Int)-1).toNat=k by omega];simp[hx]
   repeat' ((apply z2t;(first|(apply z1e;refine z2k mix ?_)|refine z34 ?_| (apply z0z;(first|refine z0y (z1k (b:=z1w l (k+1))) rfl (bk1 (zg4 H (dd,m) _)) ?_| refine z0y z2a rfl rfl ?_))|(apply z0v;(refine z0y z1h rfl rfl ?_))|(apply z1l;(refine z0y (z1p rfl hidx) rfl rfl ?_))|(apply z40;(refine z0y (z2l z1y) rfl rfl ?_))|(apply z25;(refine z3w (zic _ _ hn) ?_)))))
   skip
   refine z0a Tryz.func26 _ z1m ⟨?_,?_⟩
   · rw[z3d,hx]
   · rw[z1q,zAs (by omega)];rfl
theorem zi1 {α:Type} {a b:List α} (hl:a.length=b.length) (h:∀ j<a.length,a[j]? =b[j]?):a=b:=by
 apply List.ext_getElem?
 intro j
 by_cases hj:j<a.length
 · exact h j hj
 · rw[zAo (by omega),zAo (by omega)]
def way (c:z0i) (a:Int):List Int:=a::up c a
theorem zeq {c:z0i} (h:Wf c):∀ (n:Nat) (a:Int),(up c a).length=n→∀ x∈up c a,token c x=true:=by
 intro n
 induction n with
 | zero=>intro a ha x hx;simp at ha;simp[ha] at hx
 | succ n ih =>
  intro a ha x hx
  by_cases ht:token c a=true
  · rw[z7i h ht] at ha hx
    split at ha
    · simp at ha
    · rename_i hne
      rw[zAr hne] at hx
      simp only[zAa] at hx
      rcases hx with rfl|hx
      · exact z83 h ((z2c c a).1 ht).1 hne
      · exact ih _ (by simpa using ha) x hx
  · rw[zhh (by simpa using ht)] at hx;simp at hx
theorem zd4 {c:z0i} (h:Wf c) {a:Int} (ha:token c a=true):∀ x∈way c a,token c x=true:=by
 intro x hx
 simp only[way,zAa] at hx
 rcases hx with rfl|hx
 · exact ha
 · exact zeq h _ a rfl x hx
def z8v:List Str:=[⟨#[97]⟩,⟨#[98]⟩,⟨#[99]⟩,⟨#[65]⟩,⟨#[97,98]⟩,⟨#[]⟩]
def zgi:List Str:=[⟨#[88]⟩,⟨#[89]⟩]
def z9d:List Str:=[⟨#[124]⟩,⟨#[124,112,124]⟩,⟨#[124,112,124,113,124]⟩,⟨#[124,113,124]⟩]
def zdb:List Str:=[⟨#[115]⟩,⟨#[110,112]⟩,⟨#[116]⟩]
def atL (l:List Str) (i:Int):Str:=l.getD i.toNat ⟨#[]⟩
theorem z2y {l:List Str} {i:Int} (h0:0≤i) (h:i<l.length):l[i.toNat]? =some (atL l i):=by
 have h1:i.toNat<l.length:=by omega
 rw[atL,List.getD,zA0 h1];rfl
def z5o:List Attr:=[⟨⟨#[119,111,114,100]⟩,false⟩,⟨⟨#[116,97,103]⟩,false⟩,⟨⟨#[102,101,97,116]⟩,true⟩]
theorem z9h:z0j Tryz.prog 46 [] (.d (.slice (z5o.map Attr.cs))):=by
 refine z10 fun H=>?_
 refine z0e Tryz.func46 (by kernel_rfl) rfl (by simp) ?_
 dsimp only[Tryz.f46]
 repeat' (first|(apply z05;(first|refine z0r ?_| (apply z21;(refine z43 ?_))|(apply z3f;(refine z3h (ys:=z5o.map Attr.cs) rfl ?_))))|(apply z06;(first|refine z0q ?_|apply z0b))|(apply z07;(first|apply z08|apply z00)))
 exact z0a Tryz.func46 _ z1m ⟨rfl,rfl⟩
theorem zjx (i:Int):z0j Tryz.prog 28 [I .i64 i] (S (atL zdb (zdj i 3))):=by
 refine z10 fun H=>?_
 refine z0e Tryz.func28 (by kernel_rfl) rfl (by simp) ?_
 dsimp only[Tryz.f28]
 have hm:=z56 (x:=i) (n:=3) (by omega)
 have hx:=z2y (l:=zdb) hm.1 hm.2
 repeat' (first|(apply z05;(first|refine z0r ?_| (apply z0c;(refine z02 z2a rfl rfl ?_))|(apply z0o;(refine z02 (z2p rfl hm.1 (z5i hx) rfl) rfl rfl ?_))|(apply z0w;(refine z3e (zic _ 3 (by decide)) ?_))|(apply z3f;(refine z3h (ys:=zdb.map fun x=>[z4o x]) rfl ?_))))|(apply z06;(first|refine z0q ?_|apply z0b))|(apply z07;(first|apply z08|apply z00)))
 exact z0a Tryz.func28 _ z1m ⟨rfl,rfl⟩
theorem zk2 {i:Int} (h0:0≤i) (h:i<z8v.length):z0j Tryz.prog 47 [I .i64 i] (S (atL z8v i)):=by
 refine z10 fun H=>?_
 refine z0e Tryz.func47 (by kernel_rfl) rfl (by simp) ?_
 dsimp only[Tryz.f47]
 have hx:=z2y (l:=z8v) h0 h
 repeat' (first|(apply z05;(first|refine z0r ?_| (apply z0c;(refine z02 z2a rfl rfl ?_))|(apply z0o;(refine z02 (z2p rfl h0 (z5i hx) rfl) rfl rfl ?_))|(apply z3f;(refine z3h (ys:=z8v.map fun x=>[z4o x]) rfl ?_))))|(apply z06;(first|refine z0q ?_|apply z0b))|(apply z07;(first|apply z08|apply z00)))
 exact z0a Tryz.func47 _ z1m ⟨rfl,rfl⟩
theorem zkz {i:Int} (h0:0≤i) (h:i<zgi.length):z0j Tryz.prog 48 [I .i64 i] (S (atL zgi i)):=by
 refine z10 fun H=>?_
 refine z0e Tryz.func48 (by kernel_rfl) rfl (by simp) ?_
 dsimp only[Tryz.f48]
 have hx:=z2y (l:=zgi) h0 h
 repeat' (first|(apply z05;(first|refine z0r ?_| (apply z0c;(refine z02 z2a rfl rfl ?_))|(apply z0o;(refine z02 (z2p rfl h0 (z5i hx) rfl) rfl rfl ?_))|(apply z3f;(refine z3h (ys:=zgi.map fun x=>[z4o x]) rfl ?_))))|(apply z06;(first|refine z0q ?_|apply z0b))|(apply z07;(first|apply z08|apply z00)))
 exact z0a Tryz.func48 _ z1m ⟨rfl,rfl⟩
theorem ziw {i:Int} (h0:0≤i) (h:i<z9d.length):z0j Tryz.prog 49 [I .i64 i] (S (atL z9d i)):=by
 refine z10 fun H=>?_
 refine z0e Tryz.func49 (by kernel_rfl) rfl (by simp) ?_
 dsimp only[Tryz.f49]
 have hx:=z2y (l:=z9d) h0 h
 repeat' (first|(apply z05;(first|refine z0r ?_| (apply z0c;(refine z02 z2a rfl rfl ?_))|(apply z0o;(refine z02 (z2p rfl h0 (z5i hx) rfl) rfl rfl ?_))|(apply z3f;(refine z3h (ys:=z9d.map fun x=>[z4o x]) rfl ?_))))|(apply z06;(first|refine z0q ?_|apply z0b))|(apply z07;(first|apply z08|apply z00)))
 exact z0a Tryz.func49 _ z1m ⟨rfl,rfl⟩
set_option maxHeartbeats 20000000
attribute [local irreducible] NF
theorem z81 (l:List Int) (k:Nat) {n:Int} (h:0<n):0≤z3d l k n∧z3d l k n<n:=by
 unfold z3d
 split
 · exact z56 h
 · omega
theorem tn0 {l:List Int} {k:Nat} {n:Int} (h:0<n):0≤z3d l k n:=(z81 l k h).1
theorem tn1 {l:List Int} {k:Nat} {n:Int} (h:0<n):z3d l k n<n:=(z81 l k h).2
theorem z39 {l:List Int} {k:Nat} (hl:l.length≤120) (hk:k≤120):z1q l k≤120:=by unfold z1q;split <;> omega
theorem z7l (l:List Int) (k:Nat) (n:Int) (m:Nat) (hl:l.length≤120) (hk:k≤120) (hn:0<n∧n≤9223372036854775807) :
 Rel Tryz.prog 26 [.ptr (0,m) 0,I .i64 n] [((0,m),z1w l k)] (fun x:Int × Nat=>0≤x.1∧x.1<n∧x.2≤120) (fun x=>I .i64 x.1) (fun x=>[((0,m),z1w l x.2)]) :=
 (z4v l k n 0 m hl hk (by omega)).rel (z3d l k n,z1q l k) ⟨tn0 hn.1,tn1 hn.1,z39 hl hk⟩ rfl
theorem z9f {P:Program} {g:FuncId} {ps:List PV} {bs:List (Nm × Blk)} {σ:Type} {Q:σ→Prop} {p:σ→PV} {hs:σ→List (Nm × Blk)}
 (h:∀ H:Hf,(∀ q∈bs,H q.1.1 q.1.2=some q.2)→Ab.Spec P g ps H (fun r H'=>∃ x,Q x∧r=.v (p x)∧H'=zdt H (hs x))):Rel P g ps bs Q p hs:=h
def zfp:List Int→PV
 | []=>.d (.lit z13)
 | l=>.d (ints l)
def zg3:List Str→PV
 | []=>.d (.lit z13)
 | l=>.d (strs l)
def z3j (n:Nat) (hs:List Int) (rs:List Str):Prop:=(hs=[]∧rs=[])∨(hs.length=n∧rs.length=n∧∃ ord:List Int,ord.length=n∧ord.Nodup∧(∀ x∈ord,0≤x∧x<n) ∧
 ∀ (p:Nat) (x:Int),ord[p]? =some x→∃ h:Int,hs[x.toNat]? =some h∧(h=-1∨∃ q:Nat,q<p∧ord[q]? =some h))
theorem zcr {ord:List Int} {i:Nat} {v:Int} (h2:ord.length=i) (h3:ord.Nodup) (h4:∀ x∈ord,0≤x∧x<(i:Int)) :
 (ord.take v.toNat++(i:Int)::ord.drop v.toNat).length=i+1∧(ord.take v.toNat++(i:Int)::ord.drop v.toNat).Nodup∧∀ x∈ord.take v.toNat++(i:Int)::ord.drop v.toNat,0≤x∧x<((i+1:Nat):Int):=by
 have hp:(ord.take v.toNat++(i:Int)::ord.drop v.toNat).Perm ((i:Int)::ord):=by
  have:=List.perm_middle (a:=(i:Int)) (l₁:=ord.take v.toNat) (l₂:=ord.drop v.toNat)
  rwa [List.take_append_drop] at this
 refine⟨by rw[hp.length_eq];simp[h2],(hp.nodup_iff).2 (List.nodup_cons.2 ⟨fun hm=>by have:=h4 _ hm;omega,h3⟩),fun x hx=>?_⟩
 rcases zAa.1 ((hp.mem_iff).1 hx) with rfl|hx
 · omega
 · have:=h4 x hx;omega
def oAt (l:List Int) (i:Int):Int:=l.getD i.toNat 0
theorem z96 {l:List Int} {i:Int} (h0:0≤i) (h:i<l.length):l[i.toNat]? =some (oAt l i):=by
 have h1:i.toNat<l.length:=by omega
 rw[oAt,List.getD,zA0 h1];rfl
def zhi:List Str:=[⟨#[111,98,106]⟩,⟨#[100,101,116]⟩,⟨#[]⟩]
theorem zdk:∀ s∈zhi,s.size≤10:=by simp only[zhi,zAa,List.not_mem_nil,or_false];rintro s (rfl|rfl|rfl) <;> decide
theorem z9b {l:List Str} {i:Int} (h0:0≤i) (h:i<l.length):atL l i∈l:=zA2 (z2y h0 h)
theorem z5j {n p:Nat} {ord hq:List Int} {x v:Int} (hd:ord.Nodup) (hr:∀ x∈ord,0≤x∧x<(n:Int)) (hl:hq.length=n) (hx:ord[p]? =some x)
 (h:∀ (j:Nat) (x:Int),j<p→ord[j]? =some x→∃ h:Int,hq[x.toNat]? =some h∧(h=-1∨∃ q:Nat,q<j∧ord[q]? =some h)) (hv:v=-1∨∃ q:Nat,q<p∧ord[q]? =some v) :
 ∀ (j:Nat) (y:Int),j<p+1→ord[j]? =some y→∃ h:Int,(hq.set x.toNat v)[y.toNat]? =some h∧(h=-1∨∃ q:Nat,q<j∧ord[q]? =some h):=by
 intro j y hj hy
 have hx0:=hr x (zA2 hx)
 have hy0:=hr y (zA2 hy)
 by_cases e:j=p
 · subst e
   rw[hx] at hy;simp at hy;subst hy
   exact⟨v,zAl (by omega),hv⟩
 · have hne:x≠y:=by
    rintro rfl
    have h1:=(zA1.1 hx)
    have h2:=(zA1.1 hy)
    obtain⟨l1,e1⟩:=h1
    obtain⟨l2,e2⟩:=h2
    exact e ((List.getElem_inj hd).1 (e2.trans e1.symm))
   rw[List.getElem?_set_ne (by omega)]
   exact h j y (by omega) hy
theorem zeo (H:Hf) (A B:Blk):upd (upd (upd (upd H (0,500) .gone) (0,8) .gone) (0,8) B) (0,500) A=zdt H [((0,500),A),((0,8),B)]:=by
 simp only[zdt]
 funext d s
 simp only[upd]
 repeat' split
 all_goals first|rfl|simp_all|omega
theorem zi4 (l:List Int) (k:Nat) (A X R N:D) (ts:List (List Str)) (hl:l.length≤120) (hk:k≤120) (hn:0<ts.length∧ts.length≤1000) :
 Rel Tryz.prog 52 [.ptr (0,500) 0,.ptr (0,8) 0] [((0,500),z1w l k),((0,8),.box [.d A,.d (.slice (ts.map fun t=>[strs t])),.d X,.d R,.d N,.d (.lit z13),.d (.lit z13)])]
  (fun x:List Int × List Str × Nat=>z3j ts.length x.1 x.2.1∧(∀ s∈x.2.1,s.size≤10)∧x.2.2≤120) (fun _=>.tup [])
  (fun x=>[((0,500),z1w l x.2.2),((0,8),.box [.d A,.d (.slice (ts.map fun t=>[strs t])),.d X,.d R,.d N,zfp x.1,zg3 x.2.1])]):=by
 refine z9f fun H hH=>?_
 have hH0:=hH ((0,500),z1w l k) (by simp)
 have hH1:=hH ((0,8),_) (List.mem_cons_of_mem _ (List.mem_cons_self))
 refine z0e Tryz.func52 (by kernel_rfl) rfl (by simp) ?_
 dsimp only[Tryz.f52]
 refine z7c 500 0 500 hH0 rfl rfl ?_
 refine z7c 501 0 8 (by simp only[upd];rw[zAr (by simp)];exact hH1) rfl rfl ?_
 refine z03 (tm':=[(0,.ptr (0,500) 0),(1,.ptr (0,501) 0),(100500,.al (0,500) (1,500)),(100501,.al (0,501) (1,8))]) (hp':=[(500,z1w l k),(501,.box [.d A,.d (.slice (ts.map fun t=>[strs t])),.d X,.d R,.d N,.d (.lit z13),.d (.lit z13)])]) ?_ rfl rfl
 repeat' (first|(apply z05;(first|refine z0r ?_| (apply z0c;(refine z02 z1k rfl rfl ?_))|(apply z0d;(refine z02 z1h rfl rfl ?_))|(apply z12;(refine z02 (z0u rfl) rfl rfl ?_))))|(apply z06;(first|refine z0q ?_|apply z0b))|(apply z07;(first|apply z08|apply z00|apply z01)))
 refine zlh 5 rfl ?_
 refine z0k ?_
 refine z03 (z1x (fun q:Nat × List Int × Nat=>⟨102,[(0,.ptr (0,500) 0),(1,.ptr (0,501) 0),(4,I .i64 ts.length),(5,.d (ints q.2.1)),(6,I .i64 q.1),(100500,.al (0,500) (1,500)),(100501,.al (0,501) (1,8))],[(500,z1w l q.2.2),(501,.box [.d A,.d (.slice (ts.map fun t=>[strs t])),.d X,.d R,.d N,.d (.lit z13),.d (.lit z13)])],upd (upd H (0,500) .gone) (0,8) .gone⟩)
  (fun q=>q.1≤ts.length∧q.2.1.length=q.1∧q.2.1.Nodup∧(∀ x∈q.2.1,0≤x∧x<q.1)∧q.2.2≤120) (fun q=>ts.length-q.1) ?_ ⟨0,[],k⟩ ⟨zAc _,rfl,List.nodup_nil,by simp,hk⟩) rfl rfl
 intro ⟨i,ord,kt⟩ ⟨h1,h2,h3,h4,h5⟩ ih
 simp only at h1 h2 h3 h4 h5 ih ⊢
 by_cases hlt:i<ts.length
 · repeat' (first|(apply z05;(first|refine z0r ?_| (apply z15;(refine z02 (z1a z1y) rfl rfl ?_))|(apply z0w;((refine z4w (z7l l kt (i+1) 500 hl h5 (by omega)) rfl rfl (by decide) ?_;rintro⟨v,kt'⟩ ⟨hv1,hv2,hv3⟩;simp only at hv1 hv2 hv3 ⊢)))))|(apply z06;(first|refine z0q ?_|apply z0b))|(apply z07;(first|apply z08|apply z00|apply z09|apply z01|apply z2w|apply z04|refine z0m (fun _=>?_) (fun _=>?_)| refine z0p ?_))|(apply z2t;(first|(apply z1e;refine z2k mix ?_)|refine z34 ?_| (apply z71;(first|refine z0y (z45 rfl (by omega) (by omega) (fun _=>rfl)) rfl rfl ?_| refine z0y (zdx rfl (by omega) (by omega) (fun _=>rfl)) rfl rfl ?_))|(apply z2r;(first|refine z6i (by first|exact rfl|exact⟨_,rfl,rfl,rfl⟩) rfl rfl rfl rfl rfl (fun _=>rfl) rfl rfl (by decide) (by simp;omega) ?_|refine za6 (by first|exact rfl|exact⟨_,rfl,rfl,rfl⟩) rfl rfl _ rfl rfl rfl rfl rfl rfl rfl (by decide) (by simp;omega) ?_))|(apply z5d;(first|refine zgq (lp:=[]) (ys:=([]:List Int).map fun x=>[z3b x]) (by first|exact rfl|exact⟨_,rfl,rfl,rfl⟩) rfl rfl rfl rfl rfl rfl rfl rfl rfl (by decide) ?_|refine z5t rfl ?_)))))
   · obtain⟨f1,f2,f3⟩:=zcr (v:=v) h2 h3 h4
     refine z11 38 rfl ?_
     have e:[]++ord.take v.toNat++[(i:Int)]++ord.drop v.toNat=ord.take v.toNat++(i:Int)::ord.drop v.toNat:=by simp
     rw[e]
     exact z03 (ih ⟨i+1,ord.take v.toNat++(i:Int)::ord.drop v.toNat,kt'⟩ ⟨by omega,f1,f2,f3,hv3⟩ (by simp only;omega)) rfl rfl
   · exfalso;omega
 · repeat' (first|(apply z05;(first|refine z0r ?_| (apply z15;(refine z02 (z1a z1y) rfl rfl ?_))|(apply z12;(refine z02 (z0u rfl) rfl rfl ?_))))|(apply z06;(first|refine z0q ?_|apply z0b))|(apply z07;(first|apply z08|apply z00|apply z09|apply z01|apply z2w|refine z0m (fun _=>?_) (fun _=>?_)| refine z0p ?_))|(apply z2t;(first|(apply z1e;refine z2k mix ?_)|refine z34 ?_| (apply zat;(first|refine zbl (xs:=(List.replicate ts.length (⟨#[]⟩:Str)).map fun x=>[z4o x]) (by first|exact rfl|exact⟨_,rfl,rfl,rfl⟩) rfl rfl (by omega) (by omega) rfl rfl rfl (by decide) (by rw[List.map_replicate];rfl) ?_|refine zbl (xs:=(List.replicate ts.length (0:Int)).map fun x=>[z3b x]) (by first|exact rfl|exact⟨_,rfl,rfl,rfl⟩) rfl rfl (by omega) (by omega) rfl rfl rfl (by decide) (by rw[List.map_replicate];rfl) ?_)))))
   · exfalso;omega
   obtain rfl:i=ts.length:=by omega
   refine z0k ?_
   refine z03 (z1x (fun q:Nat × List Int × List Str × Bool × Nat=>⟨102,[(0,.ptr (0,500) 0),(1,.ptr (0,501) 0),(5,.d (ints ord)),(8,.ref (0,40)),(9,.ref (0,42)),(10,B q.2.2.2.1),(43,.d (ints ord)),(44,I .i64 ord.length),(45,I .i64 q.1),(100500,.al (0,500) (1,500)),(100501,.al (0,501) (1,8))],
    [(40,.row 3 1 (q.2.1.map fun x=>[z3b x])),(42,.row 9 1 (q.2.2.1.map fun x=>[z4o x])),(500,z1w l q.2.2.2.2),(501,.box [.d A,.d (.slice (ts.map fun t=>[strs t])),.d X,.d R,.d N,.d (.lit z13),.d (.lit z13)])],upd (upd H (0,500) .gone) (0,8) .gone⟩)
    (fun q=>q.1≤ts.length∧q.2.1.length=ts.length∧q.2.2.1.length=ts.length∧q.2.2.2.2≤120∧(∀ s∈q.2.2.1,s.size≤10)∧∀ (j:Nat) (x:Int),j<q.1→ord[j]? =some x→∃ h:Int,q.2.1[x.toNat]? =some h∧(h=-1∨∃ q:Nat,q<j∧ord[q]? =some h))
    (fun q=>ts.length-q.1) ?_ ⟨0,List.replicate ts.length 0,List.replicate ts.length ⟨#[]⟩,false,kt⟩ ⟨zAc _,by simp,by simp,h5,by intro s hs;simp at hs;rw[hs.2];decide,by simp⟩) rfl rfl
   intro ⟨p,hq,rq,sm,kz⟩ ⟨g1,g2,g3,g4,g5,g6⟩ ih2
   simp only at g1 g2 g3 g4 g5 g6 ih2 ⊢
   by_cases hlp:p<ord.length
   · obtain⟨x,hx⟩:∃ x,ord[p]? =some x:=⟨_,zA0 hlp⟩
     have hxr:=h4 x (zA2 hx)
     obtain⟨z,hz⟩:∃ z,hq[x.toNat]? =some z:=⟨_,zA0 (by omega)⟩
     obtain⟨r0,hr0⟩:∃ z,rq[x.toNat]? =some z:=⟨_,zA0 (by omega)⟩
     have hzs:∀ v:Int,(hq.set x.toNat v)[x.toNat]? =some v:=fun v=>zAl (by omega)
     have hzt:∀ u v:Int,((hq.set x.toNat u).set x.toNat v)[x.toNat]? =some v:=fun u v=>zAl (by simp;omega)
     have hrs:∀ v:Str,(rq.set x.toNat v)[x.toNat]? =some v:=fun v=>zAl (by omega)
     repeat' (first|(apply z05;(first|refine z0r ?_| (apply z0c;(first|refine z02 (z1i (hzs _) rfl rfl rfl) rfl rfl ?_| refine z02 (z1i (hzt _ _) rfl rfl rfl) rfl rfl ?_| refine z02 (z1i hr0 rfl rfl rfl) rfl rfl ?_| refine z02 (z1i (hrs _) rfl rfl rfl) rfl rfl ?_| refine z02 z2a rfl rfl ?_))|(apply z0d;(refine z02 z1h rfl rfl ?_))|(apply z0o;(first|refine z02 (z1p rfl (idx hx)) rfl rfl ?_| refine z02 (z1d rfl (by omega) (by simp;omega) rfl) rfl rfl ?_))|(apply z15;(refine z02 (z1a z1y) rfl rfl ?_))|(apply z0w;((refine z4w (z7l l kz 4 500 hl g4 (by decide)) rfl rfl (by decide) ?_;rintro⟨v,kt'⟩ ⟨hv1,hv2,hv3⟩;simp only at hv1 hv2 hv3 ⊢)))|(apply z0n;(first|refine z1b (-1) (by rfl) (by rfl) (by rfl) (by rfl) hz (by rfl) (by rfl) (by rfl) (by rfl) ?_|refine z26 ?_))))|(apply z06;(first|refine z0q ?_|apply z0b|refine z1z ?_| refine z14 rfl rfl (fun _=>?_) (fun _=>?_)|refine z3t rfl rfl (fun _=>?_) (fun _=>?_)|refine z7e rfl rfl (fun _=>?_) (fun _=>?_)))|(apply z07;(first|apply z08|apply z00|refine z1c rfl ?_|apply z09|apply z01|apply z2w|apply z04|refine z0m (fun _=>?_) (fun _=>?_)| refine z1u rfl (fun _=>?_) (fun _=>?_)|refine z0p ?_))|(apply z2t;(first|(apply z1e;refine z2k mix ?_)|refine z34 ?_| (apply z0z;(refine z0y z2a rfl rfl ?_))|(apply z1l;(first|refine z0y (z1d rfl (by omega) (by simp;omega) rfl) rfl rfl ?_| refine z0y (z2p rfl (tn0 (by omega)) (z5i (z96 (tn0 (by omega)) (Int.lt_trans (tn1 (by omega)) (by omega)))) rfl) rfl rfl ?_| refine z0y (z2p rfl (tn0 (by omega)) (z5i (z2y (l:=zhi) (tn0 (by decide)) (Int.lt_of_lt_of_le (tn1 (by decide)) (by decide)))) rfl) rfl rfl ?_))|(apply z25;(first|refine zcp (z4v l kt' (p:Int) 0 500 hl hv3 (by omega)) (by first|exact rfl|exact⟨_,rfl,rfl,rfl⟩) rfl rfl (by decide) ?_|refine zcp (z4v l (z1q l kt') 3 0 500 hl (z39 hl hv3) (by decide)) (by first|exact rfl|exact⟨_,rfl,rfl,rfl⟩) rfl rfl (by decide) ?_))|(apply z2h;(first|refine z74 (oAt ord (z3d l kt' (p:Int))) (by first|exact rfl|exact⟨_,rfl,rfl,rfl⟩) (by rfl) (by rfl) (by rfl) (by rfl) (hzs _) (by rfl) (by rfl) (by rfl) (by rfl) ?_|refine z74 (atL zhi (z3d l (z1q l kt') 3)) (by first|exact rfl|exact⟨_,rfl,rfl,rfl⟩) (by rfl) (by rfl) (by rfl) (by rfl) hr0 (by rfl) (by rfl) (by rfl) (by rfl) ?_))|(apply z5d;(refine z5t (ys:=zhi.map fun x=>[z4o x]) rfl ?_)))))
     all_goals try (exfalso;omega)
     all_goals try (exact z03 (ih2 ⟨p+1,hq.set x.toNat (-1),rq,_,kt'⟩ ⟨by omega,by simpa using g2,g3,hv3,g5,z5j h3 h4 g2 hx g6 (.inl rfl)⟩ (by simp only;omega)) rfl rfl)
     all_goals try (exact z03 (ih2 ⟨p+1,hq.set x.toNat (-1),rq,_,kz⟩ ⟨by omega,by simpa using g2,g3,g4,g5,z5j h3 h4 g2 hx g6 (.inl rfl)⟩ (by simp only;omega)) rfl rfl)
     all_goals
      have hb0:=tn0 (l:=l) (k:=kt') (n:=(p:Int)) (by omega)
      have hb1:=tn1 (l:=l) (k:=kt') (n:=(p:Int)) (by omega)
      have hfs:=z5j (v:=oAt ord (z3d l kt' (p:Int))) h3 h4 g2 hx g6 (.inr ⟨(z3d l kt' (p:Int)).toNat,by omega,z96 hb0 (by omega)⟩)
      rw[← List.set_set (a:=(-1:Int))] at hfs
      refine z03 (ih2 ⟨p+1,(hq.set x.toNat (-1)).set x.toNat (oAt ord (z3d l kt' (p:Int))),rq.set x.toNat (atL zhi (z3d l (z1q l kt') 3)),_,z1q l (z1q l kt')⟩ ⟨by omega,by simpa using g2,by simpa using g3,z39 hl (z39 hl hv3),?_,hfs⟩ (by simp only;omega)) rfl rfl
      intro s hs
      rcases List.mem_or_eq_of_mem_set hs with hs|rfl
      · exact g5 s hs
      · exact zdk _ (z9b (l:=zhi) (i:=z3d l (z1q l kt') 3) (tn0 (by decide)) (Int.lt_of_lt_of_le (tn1 (by decide)) (by decide)))
   · refine z11 40 rfl ?_
     refine z11 42 rfl ?_
     repeat' (first|(apply z05;(first|refine z0r ?_| (apply z0d;(refine z02 z1h rfl rfl ?_))|(apply z0n;(refine z26 ?_))))|(apply z06;(first|refine z0q ?_|apply z0b))|(apply z07;(first|apply z08|apply z00|apply z09|apply z01|refine z0m (fun _=>?_) (fun _=>?_)| refine z1u rfl (fun _=>?_) (fun _=>?_)|refine z0p ?_)))
     · exfalso;omega
     · refine z4l 501 0 8 (raw:=.box [.d A,.d (.slice (ts.map fun t=>[strs t])),.d X,.d R,.d N,.d (ints hq),.d (strs rq)]) rfl rfl rfl rfl rfl ?_
       refine z4l 500 0 500 (raw:=z1w l kz) rfl rfl rfl rfl rfl ?_
       refine zfs Tryz.func52 _ (z6x rfl) ⟨(hq,rq,kz),⟨.inr ⟨g2,g3,ord,h2,h3,h4,fun j x hx=>g6 j x (by have:=(zA1.1 hx).1;omega) hx⟩,g5,g4⟩,rfl,?_⟩
       have e1:zfp hq=.d (ints hq):=by cases hq with|nil=>simp at g2;omega|cons a b=>rfl
       have e2:zg3 rq=.d (strs rq):=by cases rq with|nil=>simp at g3;omega|cons a b=>rfl
       simp only[e1,e2]
       exact zeo H _ _
     · refine z4l 501 0 8 (raw:=.box [.d A,.d (.slice (ts.map fun t=>[strs t])),.d X,.d R,.d N,.d (.lit z13),.d (.lit z13)]) rfl rfl rfl rfl rfl ?_
       refine z4l 500 0 500 (raw:=z1w l kz) rfl rfl rfl rfl rfl ?_
       exact zfs Tryz.func52 _ (z6x rfl) ⟨([],[],kz),⟨.inl ⟨rfl,rfl⟩,by simp,g4⟩,rfl,zeo H _ _⟩
end Go.Proofs.YtonhfccmeammbaaGreatDoor
