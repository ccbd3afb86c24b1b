/- A part of the proof: T27 to T32. -/
import Derived.Test.YtonhfccmeammbaaGreatDoorUTB
import Derived.Test.YtonhfccmeammbaaGreatDoorUTA
import Derived.Test.YtonhfccmeammbaaGreatDoorUb
set_option linter.all false
namespace Go.Proofs.YtonhfccmeammbaaGreatDoor
open Go.Ab
set_option maxHeartbeats 20000000
attribute [local irreducible] Run Ops Op1 z1x Val Tr z0m z1r NF Rel
theorem zsi (l:List Node) (c:z0v) (hc:Small c) (hl:l.length≤1000000) (hs:∀ x∈l,x.label.size≤1000000) (hp:∀ (i:Nat) (x:Node),l[i]? =some x→-1≤x.parent∧x.parent<i):NF Tryz.prog 117 [.d (.slice (l.map Node.cs)),c.d] zu4:=by
 refine z4y fun H=>?_
 refine z0g Tryz.func117 (by kernel_rfl) rfl (by simp) ?_
 dsimp only[Tryz.f117]
 repeat' (first|(apply z04;(first|refine z0l ?_| (apply z0x;(refine z02 (z0y rfl) rfl rfl ?_))|(apply z1c;(refine z0b z1q ?_))|(apply zqq;(refine zq5 (xs:=(List.replicate l.length 0).map fun x=>[z3c x]) rfl rfl (by omega) (by omega) rfl rfl rfl (by decide) (by simp) ?_))))|(apply z05;(first|refine z0k ?_|(apply z34;refine z36 [0,1,3,4,5,6,7,8,9,10,11,14,18,19,20,21,25,31,49,61,65,82,95,105,113,125,100500,100501] (by repeat' (first|exact z2b.nil|apply z2b.yes rfl|apply z2b.no)) (by repeat' (first|exact z0p.nil|apply z0p.old rfl|apply z0p.gone|apply z0p.new rfl)) ?_)))|(apply z06;(first|apply z07|apply z00|apply z08|apply z01|refine z0h (fun _=>?_) (fun _=>?_))))
 all_goals try (first|exact z0c Tryz.func117 _ z2m ⟨_,rfl,⟨_,_,rfl⟩,rfl⟩|(exfalso;(try clear ih1);(try clear ih2);(try clear ih3);(try clear hm14);(try clear hm18);(try clear hm25);omega)|((fail_if_success (refine z0t ?_));exfalso;(try clear ih1);(try clear ih2);(try clear ih3);(try clear hm14);(try clear hm18);(try clear hm25);simp_all;done))
 all_goals
  refine z0t ?_
  refine z0e (z1v (fun q:Nat × List Int=>⟨128,[(0,PV.lift 1 (PV.d (D.slice (List.map Node.cs l)))),(3,PV.ptr (0,3) 0),(6,PV.ref (0,17)),(18,PV.lift 1 (PV.d (D.slice (List.map Node.cs l)))),(19,I IntKind.i64 (↑l.length:Int)),(20,I .i64 (q.1:Nat))],[(3,Blk.box (List.map PV.d c.cs)),(17,.row 3 1 (q.2.map fun x=>[z3c x]))],H⟩) (fun q:Nat × List Int=>q.1≤l.length∧q.2.length=l.length∧(∀ x∈q.2,0≤x∧x≤q.1)) (fun q:Nat × List Int=>l.length-q.1) ?_ ⟨0,List.replicate l.length 0⟩ ⟨zAf _,by simp,by simp⟩) rfl rfl
  intro ⟨k1,q1⟩ hk1 ih1
  simp only at hk1 ih1 ⊢
  by_cases hlt1:k1<l.length
  case pos =>
   obtain⟨x1,hx1⟩:∃ x,l[k1]? =some x:=⟨_,zA0 (by omega)⟩
   have hn1:=hs x1 (zA2 hx1)
   have hp1:=hp k1 x1 hx1
   obtain⟨z1,hz1⟩:∃ x,q1[((k1:Nat):Int).toNat]? =some x:=⟨_,zA0 (by omega)⟩
   obtain⟨w1,hw1⟩:∃ x,q1[x1.parent.toNat]? =some x:=⟨_,zA0 (by omega)⟩
   have hbz:=hk1.2.2 z1 (zA2 hz1)
   have hbw:=hk1.2.2 w1 (zA2 hw1)
   have hzs:∀ (L:List Int) (v:Int),L.length=l.length→(L.set ((k1:Nat):Int).toNat v)[((k1:Nat):Int).toNat]? =some v:=fun L v hL=>zAo (by omega)
   have hst:∀ (L:List Int) (v:Int),L.length=l.length→(∀ x∈L,0≤x∧x≤(k1:Int))→0≤v→v≤(k1:Int)+1→k1+1≤l.length∧(L.set ((k1:Nat):Int).toNat v).length=l.length∧(∀ x∈L.set ((k1:Nat):Int).toNat v,0≤x∧x≤((k1+1:Nat):Int)):=fun L v hL hx h0 h1=>⟨by omega,by simpa using hL,fun x hm=>by rcases List.mem_or_eq_of_mem_set hm with hm|rfl;(have:=hx x hm;omega);omega⟩
   have hsw:∀ x∈q1.set ((k1:Nat):Int).toNat w1,0≤x∧x≤(k1:Int):=fun x hm=>by rcases List.mem_or_eq_of_mem_set hm with hm|rfl;exact hk1.2.2 x hm;omega
   repeat' (first|(apply z04;(first|refine z0l ?_| (apply z0a;(first|refine z02 z2c rfl rfl ?_| refine z02 z18 rfl rfl ?_| refine z02 z2j rfl rfl ?_))|(apply z0d;(refine z02 z1a rfl rfl ?_))|(apply z0n;(refine z02 (z1o rfl (idx hx1)) rfl rfl ?_))|(apply z0z;(refine z02 (z2q z1p) rfl rfl ?_))|(apply z0j;(first|(refine z7a (z4z _ (by omega)) rfl (by decide) (fun p hp=>?_);obtain⟨_,rfl⟩:=hp)|(refine z7a (zj7 _ _ _ hc) rfl (by decide) (fun p hp=>?_);obtain⟨_,rfl⟩:=hp)))|(apply z0f;(refine z2d ?_))|(apply z0i;(refine z0b z1e ?_))))|(apply z05;(first|refine z0k ?_|(apply z34;refine z36 [0,1,3,4,5,6,7,8,9,10,11,14,18,19,20,21,25,31,49,61,65,82,95,105,113,125,100500,100501] (by repeat' (first|exact z2b.nil|apply z2b.yes rfl|apply z2b.no)) (by repeat' (first|exact z0p.nil|apply z0p.old rfl|apply z0p.gone|apply z0p.new rfl)) ?_)))|(apply z06;(first|apply z07|apply z00|apply z08|apply z01|apply z03|refine z0h (fun _=>?_) (fun _=>?_)| refine z2i rfl (fun _=>?_) (fun _=>?_)|refine z0o ?_)))
   all_goals try (first|exact z0c Tryz.func117 _ z2m ⟨_,rfl,⟨_,_,rfl⟩,rfl⟩|(first|exact z0e (ih1 ⟨k1+1,q1.set ((k1:Nat):Int).toNat (z1+1)⟩ (hst q1 (z1+1) hk1.2.1 hk1.2.2 (by omega) (by omega)) (by simp;omega)) rfl rfl|exact z0e (ih1 ⟨k1+1,(q1.set ((k1:Nat):Int).toNat w1).set ((k1:Nat):Int).toNat (w1+1)⟩ (hst _ (w1+1) (by simpa using hk1.2.1) hsw (by omega) (by omega)) (by simp;omega)) rfl rfl)|(exfalso;(try clear ih1);(try clear ih2);(try clear ih3);(try clear hm14);(try clear hm18);(try clear hm25);omega)|((fail_if_success (refine z0t ?_));exfalso;(try clear ih1);(try clear ih2);(try clear ih3);(try clear hm14);(try clear hm18);(try clear hm25);simp_all;done))
   all_goals
    refine z0t ?_
    refine z0e (z1v (fun m2_9:Int=>⟨128,[(0,PV.lift 1 (PV.d (D.slice (List.map Node.cs l)))),(3,PV.ptr (0,3) 0),(6,PV.ref (0,17)),(7,I IntKind.i64 (↑k1:Int)),(8,PV.ptr (0,8) 0),(9,I .i64 m2_9),(18,PV.lift 1 (PV.d (D.slice (List.map Node.cs l)))),(19,I IntKind.i64 (↑l.length:Int)),(20,I IntKind.i64 (↑k1:Int))],[(8,Blk.box (z11 (z4u ({ size:=4,bytes:=40,kind:=TK.struct,fields:=[(0,1),(1,1),(2,1),(3,1)],zero:=[Value.string { data:=#[] },Value.int IntKind.i64 0,Value.int IntKind.i64 0,Value.int IntKind.i64 0] }:TI).zero) 0 (List.map PV.d x1.cs))),(3,Blk.box (List.map PV.d c.cs)),(17,Blk.row 3 1 (List.map (fun x=>[z3c x]) q1))],H⟩) (fun m2_9:Int=> -1≤m2_9∧m2_9<k1) (fun m2_9:Int=>(m2_9+1).toNat) ?_ ((k1:Int)-1) (by omega)) rfl rfl
    intro m2_9 hk2 ih2
    obtain⟨pp,hpp⟩:∃ x,l[x1.parent.toNat]? =some x:=⟨_,zA0 (by omega)⟩
    by_cases hlt2:0≤m2_9∧m2_9≠x1.parent
    case pos =>
     obtain⟨x2,hx2⟩:∃ x,l[m2_9.toNat]? =some x:=⟨_,zA0 (by omega)⟩
     have hp2:=hp _ x2 hx2
     repeat' (first|(apply z04;(first|refine z0l ?_| (apply z0a;(first|refine z02 (z2e hw1 rfl rfl rfl) rfl rfl ?_| refine z02 z18 rfl rfl ?_| refine z02 z2p rfl rfl ?_| refine z02 z2j rfl rfl ?_))|(apply z0d;(first|refine z02 z1a rfl rfl ?_| refine z02 (z65 rfl rfl) rfl rfl ?_))|(apply z0n;(first|refine z02 (z25 rfl (by omega) (by simp;omega) rfl) rfl rfl ?_| refine z02 (z1o rfl (z6u hpp)) rfl rfl ?_| refine z02 (z1o rfl (z6u hx2)) rfl rfl ?_))|(apply z0z;(refine z02 (z2q z1p) rfl rfl ?_))|(apply z0f;(first|refine z27 w1 (by rfl) (by rfl) (by rfl) (by rfl) hz1 (by rfl) (by rfl) (by rfl) (by rfl) ?_|refine z2d ?_))|(apply z0i;(refine z0b z1e ?_))))|(apply z05;(first|refine z0k ?_|(apply z34;refine z36 [0,1,3,4,5,6,7,8,9,10,11,14,18,19,20,21,25,31,49,61,65,82,95,105,113,125,100500,100501] (by repeat' (first|exact z2b.nil|apply z2b.yes rfl|apply z2b.no)) (by repeat' (first|exact z0p.nil|apply z0p.old rfl|apply z0p.gone|apply z0p.new rfl)) ?_)|refine z1m ?_| refine z1t (fun _=>?_) (fun _=>?_)))|(apply z06;(first|(refine zb0 (b:= ?_) hm14 ?_ ?_ ?_;rotate_left;(exact rfl);(exact rfl);(exact rfl))|(refine zb0 (b:= ?_) hm18 ?_ ?_ ?_;rotate_left;(exact rfl);(exact rfl);(exact rfl))|refine z6h 14 61 (fun b14=>?_) (fun hm14=>?_)|refine z6h 18 82 (fun b18=>?_) (fun hm18=>?_)|apply z07|apply z00|refine z1f ?_| apply z08|apply z01|apply z03|refine z0h (fun _=>?_) (fun _=>?_)| refine z3o rfl (fun _=>?_) (fun _=>?_)|refine z2i rfl (fun _=>?_) (fun _=>?_)|refine z0o ?_)))
     all_goals try (first|exact z0c Tryz.func117 _ z2m ⟨_,rfl,⟨_,_,rfl⟩,rfl⟩|exact z0e (ih2 x2.parent (by omega) (by omega)) rfl rfl|(first|exact z0e (ih1 ⟨k1+1,q1.set ((k1:Nat):Int).toNat (z1+1)⟩ (hst q1 (z1+1) hk1.2.1 hk1.2.2 (by omega) (by omega)) (by simp;omega)) rfl rfl|exact z0e (ih1 ⟨k1+1,(q1.set ((k1:Nat):Int).toNat w1).set ((k1:Nat):Int).toNat (w1+1)⟩ (hst _ (w1+1) (by simpa using hk1.2.1) hsw (by omega) (by omega)) (by simp;omega)) rfl rfl)|(exfalso;(try clear ih1);(try clear ih2);(try clear ih3);(try clear hm14);(try clear hm18);(try clear hm25);omega)|((fail_if_success (refine z0t ?_));exfalso;(try clear ih1);(try clear ih2);(try clear ih3);(try clear hm14);(try clear hm18);(try clear hm25);simp_all;done))
    case neg =>
     repeat' (first|(apply z04;(first|refine z0l ?_| (apply z0a;(first|refine z02 (z2e hw1 rfl rfl rfl) rfl rfl ?_| refine z02 z18 rfl rfl ?_| refine z02 z2j rfl rfl ?_))|(apply z0d;(refine z02 z1a rfl rfl ?_))|(apply z0n;(first|refine z02 (z25 rfl (by omega) (by simp;omega) rfl) rfl rfl ?_| refine z02 (z1o rfl (z6u hpp)) rfl rfl ?_))|(apply z0z;(refine z02 (z2q z1p) rfl rfl ?_))|(apply z0f;(first|refine z27 w1 (by rfl) (by rfl) (by rfl) (by rfl) hz1 (by rfl) (by rfl) (by rfl) (by rfl) ?_|refine z2d ?_))|(apply z0i;(refine z0b z1e ?_))))|(apply z05;(first|refine z0k ?_|(apply z34;refine z36 [0,1,3,4,5,6,7,8,9,10,11,14,18,19,20,21,25,31,49,61,65,82,95,105,113,125,100500,100501] (by repeat' (first|exact z2b.nil|apply z2b.yes rfl|apply z2b.no)) (by repeat' (first|exact z0p.nil|apply z0p.old rfl|apply z0p.gone|apply z0p.new rfl)) ?_)|refine z1m ?_| refine z1t (fun _=>?_) (fun _=>?_)))|(apply z06;(first|(refine zb0 (b:= ?_) hm14 ?_ ?_ ?_;rotate_left;(exact rfl);(exact rfl);(exact rfl))|(refine zb0 (b:= ?_) hm18 ?_ ?_ ?_;rotate_left;(exact rfl);(exact rfl);(exact rfl))|refine z6h 14 61 (fun b14=>?_) (fun hm14=>?_)|refine z6h 18 82 (fun b18=>?_) (fun hm18=>?_)|apply z07|apply z00|refine z1f ?_| apply z08|apply z01|refine z0h (fun _=>?_) (fun _=>?_)| refine z3o rfl (fun _=>?_) (fun _=>?_)|refine z2i rfl (fun _=>?_) (fun _=>?_)|refine z0o ?_)))
     all_goals try (first|exact z0c Tryz.func117 _ z2m ⟨_,rfl,⟨_,_,rfl⟩,rfl⟩|(first|exact z0e (ih1 ⟨k1+1,q1.set ((k1:Nat):Int).toNat (z1+1)⟩ (hst q1 (z1+1) hk1.2.1 hk1.2.2 (by omega) (by omega)) (by simp;omega)) rfl rfl|exact z0e (ih1 ⟨k1+1,(q1.set ((k1:Nat):Int).toNat w1).set ((k1:Nat):Int).toNat (w1+1)⟩ (hst _ (w1+1) (by simpa using hk1.2.1) hsw (by omega) (by omega)) (by simp;omega)) rfl rfl)|(exfalso;(try clear ih1);(try clear ih2);(try clear ih3);(try clear hm14);(try clear hm18);(try clear hm25);omega)|((fail_if_success (refine z0t ?_));exfalso;(try clear ih1);(try clear ih2);(try clear ih3);(try clear hm14);(try clear hm18);(try clear hm25);simp_all;done))
     · exact zD1
     · exact zD1
     · skip
       refine z0t ?_
       refine z0e (z1v (fun m3_11:Int=>⟨128,[(0,PV.lift 1 (PV.d (D.slice (List.map Node.cs l)))),(3,PV.ptr (0,3) 0),(6,PV.ref (0,17)),(7,I IntKind.i64 (↑k1:Int)),(8,PV.ptr (0,8) 0),(11,I .i64 m3_11),(18,PV.lift 1 (PV.d (D.slice (List.map Node.cs l)))),(19,I IntKind.i64 (↑l.length:Int)),(20,I IntKind.i64 (↑k1:Int))],[(8,Blk.box (z11 (z4u ({ size:=4,bytes:=40,kind:=TK.struct,fields:=[(0,1),(1,1),(2,1),(3,1)],zero:=[Value.string { data:=#[] },Value.int IntKind.i64 0,Value.int IntKind.i64 0,Value.int IntKind.i64 0] }:TI).zero) 0 (List.map PV.d x1.cs))),(3,Blk.box (List.map PV.d c.cs)),(17,Blk.row 3 1 (List.map (fun x=>[z3c x]) q1))],H⟩) (fun m3_11:Int=> -1≤m3_11∧m3_11<k1) (fun m3_11:Int=>(m3_11+1).toNat) ?_ ((k1:Int)-1) (by omega)) rfl rfl
       intro m3_11 hk3 ih3
       by_cases hlt3:0≤m3_11
       case pos =>
        obtain⟨x3,hx3⟩:∃ x,l[m3_11.toNat]? =some x:=⟨_,zA0 (by omega)⟩
        repeat' (first|(apply z04;(first|refine z0l ?_| (apply z0a;(first|refine z02 (z2e hz1 rfl rfl rfl) rfl rfl ?_| refine z02 (z2e (hzs _ _ (by simpa using hk1.2.1)) rfl rfl rfl) rfl rfl ?_))|(apply z0n;(refine z02 (z25 rfl (by omega) (by simp;omega) rfl) rfl rfl ?_))|(apply z0z;(first|refine z02 (z14 z1p) rfl rfl ?_| refine z02 (z2q z1p) rfl rfl ?_))|(apply z0f;(refine z27 (z1+1) (by rfl) (by rfl) (by rfl) (by rfl) hz1 (by rfl) (by rfl) (by rfl) (by rfl) ?_))))|(apply z05;(first|refine z0k ?_|(apply z34;refine z36 [0,1,3,4,5,6,7,8,9,10,11,14,18,19,20,21,25,31,49,61,65,82,95,105,113,125,100500,100501] (by repeat' (first|exact z2b.nil|apply z2b.yes rfl|apply z2b.no)) (by repeat' (first|exact z0p.nil|apply z0p.old rfl|apply z0p.gone|apply z0p.new rfl)) ?_)))|(apply z06;(first|(refine zb0 (b:= ?_) hm25 ?_ ?_ ?_;rotate_left;(exact rfl);(exact rfl);(exact rfl))|refine zes 25 113 (fun b25=>?_) (fun hm25=>?_)|apply z07|apply z00|apply z08|apply z01|apply z2z|apply z03|refine z0h (fun _=>?_) (fun _=>?_)| refine z2i rfl (fun _=>?_) (fun _=>?_)|refine z0o ?_))|(apply z2v;(first|(apply z1l;refine z7i [0,1,3,4,5,6,7,8,9,10,11,14,18,19,20,21,25,31,49,61,65,82,95,105,113,125,100500,100501] mix (by kernel_rfl) (by repeat' (first|exact z2b.nil|apply z2b.yes rfl|apply z2b.no)) (by repeat' (first|exact z0p.nil|apply z0p.old rfl|apply z0p.gone|apply z0p.new rfl)) ?_)|refine z3h ?_| (apply z0u;(first|refine z0w z18 rfl rfl ?_| refine z0w z2p rfl rfl ?_))|(apply z0q;(first|refine z0w z1a rfl rfl ?_| refine z0w (z65 rfl rfl) rfl rfl ?_))|(apply z1n;(refine z0w (z1o rfl (z6u hx3)) rfl rfl ?_)))))
        all_goals try (first|exact z0c Tryz.func117 _ z2m ⟨_,rfl,⟨_,_,rfl⟩,rfl⟩|exact z0e (ih3 (m3_11-1) (by omega) (by omega)) rfl rfl|(first|exact z0e (ih1 ⟨k1+1,q1.set ((k1:Nat):Int).toNat (z1+1)⟩ (hst q1 (z1+1) hk1.2.1 hk1.2.2 (by omega) (by omega)) (by simp;omega)) rfl rfl|exact z0e (ih1 ⟨k1+1,(q1.set ((k1:Nat):Int).toNat w1).set ((k1:Nat):Int).toNat (w1+1)⟩ (hst _ (w1+1) (by simpa using hk1.2.1) hsw (by omega) (by omega)) (by simp;omega)) rfl rfl)|(exfalso;(try clear ih1);(try clear ih2);(try clear ih3);(try clear hm14);(try clear hm18);(try clear hm25);omega)|((fail_if_success (refine z0t ?_));exfalso;(try clear ih1);(try clear ih2);(try clear ih3);(try clear hm14);(try clear hm18);(try clear hm25);simp_all;done))
       case neg =>
        repeat' (first|(apply z04;(first|refine z0l ?_| (apply z0a;(first|refine z02 (z2e hz1 rfl rfl rfl) rfl rfl ?_| refine z02 (z2e (hzs _ _ (by simpa using hk1.2.1)) rfl rfl rfl) rfl rfl ?_))|(apply z0n;(refine z02 (z25 rfl (by omega) (by simp;omega) rfl) rfl rfl ?_))|(apply z0z;(refine z02 (z14 z1p) rfl rfl ?_))|(apply z0f;(refine z27 (z1+1) (by rfl) (by rfl) (by rfl) (by rfl) hz1 (by rfl) (by rfl) (by rfl) (by rfl) ?_))))|(apply z05;(first|refine z0k ?_|(apply z34;refine z36 [0,1,3,4,5,6,7,8,9,10,11,14,18,19,20,21,25,31,49,61,65,82,95,105,113,125,100500,100501] (by repeat' (first|exact z2b.nil|apply z2b.yes rfl|apply z2b.no)) (by repeat' (first|exact z0p.nil|apply z0p.old rfl|apply z0p.gone|apply z0p.new rfl)) ?_)))|(apply z06;(first|apply z07|apply z00|apply z08|apply z01|apply z2z|apply z03|refine z0h (fun _=>?_) (fun _=>?_)| refine z0o ?_))|(apply z2v;(refine z3h ?_)))
        all_goals try (first|exact z0c Tryz.func117 _ z2m ⟨_,rfl,⟨_,_,rfl⟩,rfl⟩|(first|exact z0e (ih1 ⟨k1+1,q1.set ((k1:Nat):Int).toNat (z1+1)⟩ (hst q1 (z1+1) hk1.2.1 hk1.2.2 (by omega) (by omega)) (by simp;omega)) rfl rfl|exact z0e (ih1 ⟨k1+1,(q1.set ((k1:Nat):Int).toNat w1).set ((k1:Nat):Int).toNat (w1+1)⟩ (hst _ (w1+1) (by simpa using hk1.2.1) hsw (by omega) (by omega)) (by simp;omega)) rfl rfl)|(exfalso;(try clear ih1);(try clear ih2);(try clear ih3);(try clear hm14);(try clear hm18);(try clear hm25);omega)|((fail_if_success (refine z0t ?_));exfalso;(try clear ih1);(try clear ih2);(try clear ih3);(try clear hm14);(try clear hm18);(try clear hm25);simp_all;done))
  case neg =>
   repeat' (first|(apply z04;(refine z0l ?_))|(apply z05;(first|refine z0k ?_|(apply z34;refine z36 [0,1,3,4,5,6,7,8,9,10,11,14,18,19,20,21,25,31,49,61,65,82,95,105,113,125,100500,100501] (by repeat' (first|exact z2b.nil|apply z2b.yes rfl|apply z2b.no)) (by repeat' (first|exact z0p.nil|apply z0p.old rfl|apply z0p.gone|apply z0p.new rfl)) ?_)))|(apply z06;(first|apply z07|apply z00|apply z08|apply z01|refine z0h (fun _=>?_) (fun _=>?_)| refine z0o ?_)))
   all_goals try (first|exact z0c Tryz.func117 _ z2m ⟨_,rfl,⟨_,_,rfl⟩,rfl⟩|(exfalso;(try clear ih1);(try clear ih2);(try clear ih3);(try clear hm14);(try clear hm18);(try clear hm25);omega)|((fail_if_success (refine z0t ?_));exfalso;(try clear ih1);(try clear ih2);(try clear ih3);(try clear hm14);(try clear hm18);(try clear hm25);simp_all;done))
def zx7 (p:PV):Prop:=∃ i j e:Int,p=.tup [I .i64 i,I .i64 j,I .i64 e]
theorem zgv (c:z0v) (hc:Small c) (hp:∀ (i:Nat) (x:Node),c.nodes[i]? =some x→-1≤x.parent∧x.parent<i):NF Tryz.prog 86 [c.d] zx7:=by
 refine z4y fun H=>?_
 refine z0g Tryz.func86 (by kernel_rfl) rfl (by simp) ?_
 dsimp only[Tryz.f86]
 repeat' (first|(apply z04;(first|refine z0l ?_| (apply z0a;(first|refine z02 z2c rfl rfl ?_| refine z02 z18 rfl rfl ?_))|(apply z0d;(refine z02 z1a rfl rfl ?_))|(apply z0j;(first|(refine z7a (zg7 _ hc.nattrs hc.attr) rfl (by decide) (fun p hp=>?_);obtain⟨_,_,rfl⟩:=hp)|(refine z7a (zoh _ hc) rfl (by decide) (fun p hp=>?_);obtain⟨_,_,rfl⟩:=hp)|(refine z7a (zs9 _ hc) rfl (by decide) (fun p hp=>?_);obtain⟨_,_,rfl⟩:=hp)|(refine z7a (zmx _ hc) rfl (by decide) (fun p hp=>?_);obtain⟨_,_,rfl⟩:=hp)|(refine z7a (zsi _ _ hc hc.nnodes (fun x hx=>(hc.node x hx).1) hp) rfl (by decide) (fun p hp=>?_);obtain⟨_,_,rfl⟩:=hp)|(refine z7a (ztb _ hc) rfl (by decide) (fun p hp=>?_);obtain⟨_,_,rfl⟩:=hp)))|(apply z1c;(refine z0b z1q ?_))))|(apply z05;(first|refine z0k ?_|(apply z34;refine z36 [0,1,2,3,4,5,6,7,8,9,10,11,12,13,14,15,16,24,33,42,51,62,71,100500,100501] (by repeat' (first|exact z2b.nil|apply z2b.yes rfl|apply z2b.no)) (by repeat' (first|exact z0p.nil|apply z0p.old rfl|apply z0p.gone|apply z0p.new rfl)) ?_)))|(apply z06;(first|apply z07|apply z00|apply z08|refine z3o rfl (fun _=>?_) (fun _=>?_))))
 all_goals try (first|exact z0c Tryz.func86 _ (z5b rfl rfl rfl rfl) ⟨_,rfl,⟨_,_,_,rfl⟩,rfl⟩|(exfalso;(try clear hzz);omega)|((fail_if_success (refine z0t ?_));exfalso;(try clear hzz);simp_all;done))
theorem zii (c:z0v) (hc:Small c) (hp:∀ (i:Nat) (x:Node),c.nodes[i]? =some x→-1≤x.parent∧x.parent<i):NF Tryz.prog 53 [c.d] IsB:=by
 refine z4y fun H=>?_
 refine z0g Tryz.func53 (by kernel_rfl) rfl (by simp) ?_
 dsimp only[Tryz.f53]
 repeat' (first|(apply z04;(first|refine z0l ?_| (apply z0a;(refine z02 z2c rfl rfl ?_))|(apply z0j;((refine z7a (zgv c hc hp) rfl (by decide) (fun p hp=>?_);obtain⟨_,_,_,rfl⟩:=hp)))|(apply z1c;(refine z0b z1q ?_))))|(apply z05;(first|refine z0k ?_|(apply z34;refine z36 [0,1,2,5,100500,100501] (by repeat' (first|exact z2b.nil|apply z2b.yes rfl|apply z2b.no)) (by repeat' (first|exact z0p.nil|apply z0p.old rfl|apply z0p.gone|apply z0p.new rfl)) ?_)))|(apply z06;(first|apply z07|apply z00)))
 all_goals try (first|exact z0c Tryz.func53 _ z1j ⟨_,rfl,⟨_,rfl⟩,rfl⟩|(exfalso;(try clear hzz);omega)|((fail_if_success (refine z0t ?_));exfalso;(try clear hzz);simp_all;done))
end Go.Proofs.YtonhfccmeammbaaGreatDoor
namespace Go.Proofs.YtonhfccmeammbaaGreatDoor
open Go.Ab
set_option maxHeartbeats 2000000
attribute [local irreducible] Run Ops Op1 z1x Val Tr z0m z1r
def z2g (l:List Int) (k:Nat):Blk:=.box [.d (ints l),I .i64 k]
theorem zx5 (l:List Int) (hl:l.length≤9223372036854775807):∀ H,Ab.Spec Tryz.prog 9 [.d (ints l)] H (fun r H'=>r=.new (z2g (l.take 120) 0)∧H'=H):=by
 intro H
 refine z0g Tryz.func9 (by kernel_rfl) rfl (by simp) ?_
 dsimp only[Tryz.f9]
 by_cases h:l.length≤120
 · repeat' (first|(apply z04;(first|refine z0l ?_| (apply z0x;(refine z02 (z0y rfl) rfl rfl ?_))|(apply z1c;(refine z0b z1q ?_))|(apply z1i;(refine z2x ?_))))|(apply z05;(first|refine z0k ?_|apply z09))|(apply z06;(first|apply z07|apply z00|apply z08|refine z0h (fun _=>?_) (fun _=>?_))))
   · rename_i h2;omega
   · refine z0c Tryz.func9 _ (zgo (qs:=[.d (ints l),I .i64 0]) rfl rfl rfl rfl) ⟨?_,rfl⟩
     rw[List.take_of_length_le h];rfl
 · repeat' (first|(apply z04;(first|refine z0l ?_| (apply za8;(refine z02 (z6m rfl (by omega) (by omega) (fun _=>rfl)) rfl rfl ?_))|(apply z0x;(refine z02 (z0y rfl) rfl rfl ?_))|(apply z1c;(refine z0b z1q ?_))|(apply z1i;(refine z2x ?_))))|(apply z05;(first|refine z0k ?_|apply z09))|(apply z06;(first|apply z07|apply z00|apply z08|refine z0h (fun _=>?_) (fun _=>?_))))
   · refine z0c Tryz.func9 _ (zgo (qs:=[.d (ints (l.take 120)),I .i64 0]) rfl rfl rfl rfl) ⟨?_,rfl⟩
     rfl
   · rename_i h2;omega
def z47 (l:List Int) (k:Nat) (n:Int):Int:=match l[k]? with
 | some x=>znp x n
 | none=>0
def z1u (l:List Int) (k:Nat):Nat:=if k<l.length then k+1 else k
theorem z7e (l:List Int) (k:Nat) (n:Int) (dd m:Nat) (hl:l.length≤120) (hk:k≤120) (hn:-9223372036854775808≤n∧n≤9223372036854775807) :
 z1r Tryz.prog 26 [.ptr (dd,m) 0,I .i64 n] [((dd,m),z2g l k)] [((dd,m),z2g l (z1u l k))] (I .i64 (z47 l k n)):=by
 refine z2h fun H hH=>?_
 have hH0:=hH ((dd,m),z2g l k) (by simp)
 refine z0g Tryz.func26 (by kernel_rfl) rfl (by simp) ?_
 dsimp only[Tryz.f26]
 repeat' (first|(apply z04;(refine z0l ?_))|(apply z05;(first|refine z0k ?_|apply z09))|(apply z06;(first|apply z07|apply z00|apply z2z))|(apply z2v;(first|refine z3h ?_| (apply z0q;(refine z0w z1a rfl rfl ?_)))))
 repeat' (first|(apply z04;(first|refine z0l ?_| (apply z0d;(refine z02 z1a rfl rfl ?_))))|(apply z05;(first|refine z0k ?_|apply z09))|(apply z06;(first|apply z07|apply z00|apply z08|refine z0h (fun _=>?_) (fun _=>?_)))|(apply z2v;(first|(apply z1l;refine z2n mix ?_)|refine z3h ?_| (apply z0u;(refine z0w (z18 (b:=z2g l k)) rfl (bk1 hH0) ?_))|(apply z0q;(refine z0w z1a rfl rfl ?_))|(apply z3n;(refine z0w (z0y rfl) rfl rfl ?_)))))
 skip
 · rename_i hlt
   refine z0c Tryz.func26 _ z1j ⟨?_,?_⟩
   · simp[z47,zAu (l:=l) (i:=k) (by omega)]
   · rw[z1u,zAx (by omega)];exact(zcb hH0).symm
 · rename_i hlt
   obtain⟨x,hx⟩:∃ x,l[k]? =some x:=⟨_,zA0 (by omega)⟩
   repeat' (first|(apply z04;(first|refine z0l ?_| (apply z0a;(refine z02 (z18 (b:=z2g l k)) rfl (bk1 hH0) ?_))|(apply z0d;(refine z02 z1a rfl rfl ?_))|(apply z0z;(refine z02 (z14 z1p) rfl rfl ?_))|(apply z0f;(refine z68 (raw:=z2g l k) (raw':=z2g l (k+1)) rfl hH0 rfl rfl rfl rfl rfl rfl ?_))))|(apply z05;(first|refine z0k ?_|apply z09))|(apply z06;(first|apply z07|apply z2z))|(apply z2v;(first|refine z3h ?_| (apply z0q;(refine z0w z1a rfl rfl ?_)))))
   have hidx:(l.map fun x=>[z3c x])[(((k+1:Nat):Int)-1).toNat]? =some [z3c x]:=by
    rw[show (((k+1:Nat):Int)-1).toNat=k by omega];simp[hx]
   repeat' ((apply z2v;(first|(apply z1l;refine z2n mix ?_)|refine z3h ?_| (apply z0u;(first|refine z0w (z18 (b:=z2g l (k+1))) rfl (bk1 (z4n H (dd,m) _)) ?_| refine z0w z2p rfl rfl ?_))|(apply z0q;(refine z0w z1a rfl rfl ?_))|(apply z1n;(refine z0w (z1o rfl hidx) rfl rfl ?_))|(apply z3y;(refine z0w (z2q z1p) rfl rfl ?_))|(apply z22;(refine z5f (zvz _ _ hn) ?_)))))
   skip
   refine z0c Tryz.func26 _ z1j ⟨?_,?_⟩
   · rw[z47,hx]
   · rw[z1u,zAy (by omega)];rfl
theorem zry {α:Type} {a b:List α} (hl:a.length=b.length) (h:∀ j<a.length,a[j]? =b[j]?):a=b:=by
 apply List.ext_getElem?
 intro j
 by_cases hj:j<a.length
 · exact h j hj
 · rw[zAu (by omega),zAu (by omega)]
def way (c:z0v) (a:Int):List Int:=a::up c a
theorem zp9 {c:z0v} (h:Wf c):∀ (n:Nat) (a:Int),(up c a).length=n→∀ x∈up c a,token c x=true:=by
 intro n
 induction n with
 | zero=>intro a ha x hx;simp at ha;simp[ha] at hx
 | succ n ih =>
  intro a ha x hx
  by_cases ht:token c a=true
  · rw[zca h ht] at ha hx
    split at ha
    · simp at ha
    · rename_i hne
      rw[zAx hne] at hx
      simp only[zAc] at hx
      rcases hx with rfl|hx
      · exact zd3 h ((z3d c a).1 ht).1 hne
      · exact ih _ (by simpa using ha) x hx
  · rw[zr4 (by simpa using ht)] at hx;simp at hx
theorem zm7 {c:z0v} (h:Wf c) {a:Int} (ha:token c a=true):∀ x∈way c a,token c x=true:=by
 intro x hx
 simp only[way,zAc] at hx
 rcases hx with rfl|hx
 · exact ha
 · exact zp9 h _ a rfl x hx
def zdv:List Str:=[⟨#[97]⟩,⟨#[98]⟩,⟨#[99]⟩,⟨#[65]⟩,⟨#[97,98]⟩,⟨#[]⟩]
def zq4:List Str:=[⟨#[88]⟩,⟨#[89]⟩]
def zff:List Str:=[⟨#[124]⟩,⟨#[124,112,124]⟩,⟨#[124,112,124,113,124]⟩,⟨#[124,113,124]⟩]
def zky:List Str:=[⟨#[115]⟩,⟨#[110,112]⟩,⟨#[116]⟩]
def atL (l:List Str) (i:Int):Str:=l.getD i.toNat ⟨#[]⟩
theorem z3j {l:List Str} {i:Int} (h0:0≤i) (h:i<l.length):l[i.toNat]? =some (atL l i):=by
 have h1:i.toNat<l.length:=by omega
 rw[atL,List.getD,zA0 h1];rfl
def z6q:List Attr:=[⟨⟨#[119,111,114,100]⟩,false⟩,⟨⟨#[116,97,103]⟩,false⟩,⟨⟨#[102,101,97,116]⟩,true⟩]
theorem zfk:z0m Tryz.prog 46 [] (.d (.slice (z6q.map Attr.cs))):=by
 refine z10 fun H=>?_
 refine z0g Tryz.func46 (by kernel_rfl) rfl (by simp) ?_
 dsimp only[Tryz.f46]
 repeat' (first|(apply z04;(first|refine z0l ?_| (apply z1i;(refine z2x ?_))|(apply z3t;(refine z3s (ys:=z6q.map Attr.cs) rfl ?_))))|(apply z05;(first|refine z0k ?_|apply z09))|(apply z06;(first|apply z07|apply z00)))
 exact z0c Tryz.func46 _ z1j ⟨rfl,rfl⟩
theorem zqc (i:Int):z0m Tryz.prog 28 [I .i64 i] (S (atL zky (znp i 3))):=by
 refine z10 fun H=>?_
 refine z0g Tryz.func28 (by kernel_rfl) rfl (by simp) ?_
 dsimp only[Tryz.f28]
 have hm:=zdu (x:=i) (n:=3) (by omega)
 have hx:=z3j (l:=zky) hm.1 hm.2
 repeat' (first|(apply z04;(first|refine z0l ?_| (apply z0a;(refine z02 z2p rfl rfl ?_))|(apply z0n;(refine z02 (z23 rfl hm.1 (z6u hx) rfl) rfl rfl ?_))|(apply z0j;(refine z2s (zvz _ 3 (by decide)) ?_))|(apply z3t;(refine z3s (ys:=zky.map fun x=>[z5p x]) rfl ?_))))|(apply z05;(first|refine z0k ?_|apply z09))|(apply z06;(first|apply z07|apply z00)))
 exact z0c Tryz.func28 _ z1j ⟨rfl,rfl⟩
theorem zvm {i:Int} (h0:0≤i) (h:i<zdv.length):z0m Tryz.prog 47 [I .i64 i] (S (atL zdv i)):=by
 refine z10 fun H=>?_
 refine z0g Tryz.func47 (by kernel_rfl) rfl (by simp) ?_
 dsimp only[Tryz.f47]
 have hx:=z3j (l:=zdv) h0 h
 repeat' (first|(apply z04;(first|refine z0l ?_| (apply z0a;(refine z02 z2p rfl rfl ?_))|(apply z0n;(refine z02 (z23 rfl h0 (z6u hx) rfl) rfl rfl ?_))|(apply z3t;(refine z3s (ys:=zdv.map fun x=>[z5p x]) rfl ?_))))|(apply z05;(first|refine z0k ?_|apply z09))|(apply z06;(first|apply z07|apply z00)))
 exact z0c Tryz.func47 _ z1j ⟨rfl,rfl⟩
theorem zyn {i:Int} (h0:0≤i) (h:i<zq4.length):z0m Tryz.prog 48 [I .i64 i] (S (atL zq4 i)):=by
 refine z10 fun H=>?_
 refine z0g Tryz.func48 (by kernel_rfl) rfl (by simp) ?_
 dsimp only[Tryz.f48]
 have hx:=z3j (l:=zq4) h0 h
 repeat' (first|(apply z04;(first|refine z0l ?_| (apply z0a;(refine z02 z2p rfl rfl ?_))|(apply z0n;(refine z02 (z23 rfl h0 (z6u hx) rfl) rfl rfl ?_))|(apply z3t;(refine z3s (ys:=zq4.map fun x=>[z5p x]) rfl ?_))))|(apply z05;(first|refine z0k ?_|apply z09))|(apply z06;(first|apply z07|apply z00)))
 exact z0c Tryz.func48 _ z1j ⟨rfl,rfl⟩
theorem zum {i:Int} (h0:0≤i) (h:i<zff.length):z0m Tryz.prog 49 [I .i64 i] (S (atL zff i)):=by
 refine z10 fun H=>?_
 refine z0g Tryz.func49 (by kernel_rfl) rfl (by simp) ?_
 dsimp only[Tryz.f49]
 have hx:=z3j (l:=zff) h0 h
 repeat' (first|(apply z04;(first|refine z0l ?_| (apply z0a;(refine z02 z2p rfl rfl ?_))|(apply z0n;(refine z02 (z23 rfl h0 (z6u hx) rfl) rfl rfl ?_))|(apply z3t;(refine z3s (ys:=zff.map fun x=>[z5p x]) rfl ?_))))|(apply z05;(first|refine z0k ?_|apply z09))|(apply z06;(first|apply z07|apply z00)))
 exact z0c Tryz.func49 _ z1j ⟨rfl,rfl⟩
set_option maxHeartbeats 20000000
attribute [local irreducible] NF
theorem zdp (l:List Int) (k:Nat) {n:Int} (h:0<n):0≤z47 l k n∧z47 l k n<n:=by
 unfold z47
 split
 · exact zdu h
 · omega
theorem tn0 {l:List Int} {k:Nat} {n:Int} (h:0<n):0≤z47 l k n:=(zdp l k h).1
theorem tn1 {l:List Int} {k:Nat} {n:Int} (h:0<n):z47 l k n<n:=(zdp l k h).2
theorem z52 {l:List Int} {k:Nat} (hl:l.length≤120) (hk:k≤120):z1u l k≤120:=by unfold z1u;split <;> omega
theorem zbm (l:List Int) (k:Nat) (n:Int) (m:Nat) (hl:l.length≤120) (hk:k≤120) (hn:0<n∧n≤9223372036854775807) :
 Rel Tryz.prog 26 [.ptr (0,m) 0,I .i64 n] [((0,m),z2g l k)] (fun x:Int × Nat=>0≤x.1∧x.1<n∧x.2≤120) (fun x=>I .i64 x.1) (fun x=>[((0,m),z2g l x.2)]) :=
 (z7e l k n 0 m hl hk (by omega)).rel (z47 l k n,z1u l k) ⟨tn0 hn.1,tn1 hn.1,z52 hl hk⟩ rfl
theorem zd5 {P:Program} {g:FuncId} {ps:List PV} {bs:List (Nm × Blk)} {σ:Type} {Q:σ→Prop} {p:σ→PV} {hs:σ→List (Nm × Blk)}
 (h:∀ H:Hf,(∀ q∈bs,H q.1.1 q.1.2=some q.2)→Ab.Spec P g ps H (fun r H'=>∃ x,Q x∧r=.v (p x)∧H'=zd1 H (hs x))):Rel P g ps bs Q p hs:=h
def znt:List Int→PV
 | []=>.d (.lit z1k)
 | l=>.d (ints l)
def zph:List Str→PV
 | []=>.d (.lit z1k)
 | l=>.d (strs l)
def z5k (n:Nat) (hs:List Int) (rs:List Str):Prop:=(hs=[]∧rs=[])∨(hs.length=n∧rs.length=n∧∃ ord:List Int,ord.length=n∧ord.Nodup∧(∀ x∈ord,0≤x∧x<n) ∧
 ∀ (p:Nat) (x:Int),ord[p]? =some x→∃ h:Int,hs[x.toNat]? =some h∧(h=-1∨∃ q:Nat,q<p∧ord[q]? =some h))
theorem zlf {ord:List Int} {i:Nat} {v:Int} (h2:ord.length=i) (h3:ord.Nodup) (h4:∀ x∈ord,0≤x∧x<(i:Int)) :
 (ord.take v.toNat++(i:Int)::ord.drop v.toNat).length=i+1∧(ord.take v.toNat++(i:Int)::ord.drop v.toNat).Nodup∧∀ x∈ord.take v.toNat++(i:Int)::ord.drop v.toNat,0≤x∧x<((i+1:Nat):Int):=by
 have hp:(ord.take v.toNat++(i:Int)::ord.drop v.toNat).Perm ((i:Int)::ord):=by
  have:=List.perm_middle (a:=(i:Int)) (l₁:=ord.take v.toNat) (l₂:=ord.drop v.toNat)
  rwa [List.take_append_drop] at this
 refine⟨by rw[hp.length_eq];simp[h2],(hp.nodup_iff).2 (List.nodup_cons.2 ⟨fun hm=>by have:=h4 _ hm;omega,h3⟩),fun x hx=>?_⟩
 rcases zAc.1 ((hp.mem_iff).1 hx) with rfl|hx
 · omega
 · have:=h4 x hx;omega
def oAt (l:List Int) (i:Int):Int:=l.getD i.toNat 0
theorem zez {l:List Int} {i:Int} (h0:0≤i) (h:i<l.length):l[i.toNat]? =some (oAt l i):=by
 have h1:i.toNat<l.length:=by omega
 rw[oAt,List.getD,zA0 h1];rfl
def zst:List Str:=[⟨#[111,98,106]⟩,⟨#[100,101,116]⟩,⟨#[]⟩]
theorem zmp:∀ s∈zst,s.size≤10:=by simp only[zst,zAc,List.not_mem_nil,or_false];rintro s (rfl|rfl|rfl) <;> decide
theorem zdy {l:List Str} {i:Int} (h0:0≤i) (h:i<l.length):atL l i∈l:=zA2 (z3j h0 h)
theorem z8r {n p:Nat} {ord hq:List Int} {x v:Int} (hd:ord.Nodup) (hr:∀ x∈ord,0≤x∧x<(n:Int)) (hl:hq.length=n) (hx:ord[p]? =some x)
 (h:∀ (j:Nat) (x:Int),j<p→ord[j]? =some x→∃ h:Int,hq[x.toNat]? =some h∧(h=-1∨∃ q:Nat,q<j∧ord[q]? =some h)) (hv:v=-1∨∃ q:Nat,q<p∧ord[q]? =some v) :
 ∀ (j:Nat) (y:Int),j<p+1→ord[j]? =some y→∃ h:Int,(hq.set x.toNat v)[y.toNat]? =some h∧(h=-1∨∃ q:Nat,q<j∧ord[q]? =some h):=by
 intro j y hj hy
 have hx0:=hr x (zA2 hx)
 have hy0:=hr y (zA2 hy)
 by_cases e:j=p
 · subst e
   rw[hx] at hy;simp at hy;subst hy
   exact⟨v,zAo (by omega),hv⟩
 · have hne:x≠y:=by
    rintro rfl
    have h1:=(zA1.1 hx)
    have h2:=(zA1.1 hy)
    obtain⟨l1,e1⟩:=h1
    obtain⟨l2,e2⟩:=h2
    exact e ((List.getElem_inj hd).1 (e2.trans e1.symm))
   rw[List.getElem?_set_ne (by omega)]
   exact h j y (by omega) hy
theorem zov (H:Hf) (A B:Blk):upd (upd (upd (upd H (0,500) .gone) (0,8) .gone) (0,8) B) (0,500) A=zd1 H [((0,500),A),((0,8),B)]:=by
 simp only[zd1]
 funext d s
 simp only[upd]
 repeat' split
 all_goals first|rfl|simp_all|omega
theorem zrs (l:List Int) (k:Nat) (A X R N:D) (ts:List (List Str)) (hl:l.length≤120) (hk:k≤120) (hn:0<ts.length∧ts.length≤1000) :
 Rel Tryz.prog 52 [.ptr (0,500) 0,.ptr (0,8) 0] [((0,500),z2g l k),((0,8),.box [.d A,.d (.slice (ts.map fun t=>[strs t])),.d X,.d R,.d N,.d (.lit z1k),.d (.lit z1k)])]
  (fun x:List Int × List Str × Nat=>z5k ts.length x.1 x.2.1∧(∀ s∈x.2.1,s.size≤10)∧x.2.2≤120) (fun _=>.tup [])
  (fun x=>[((0,500),z2g l x.2.2),((0,8),.box [.d A,.d (.slice (ts.map fun t=>[strs t])),.d X,.d R,.d N,znt x.1,zph x.2.1])]):=by
 refine zd5 fun H hH=>?_
 have hH0:=hH ((0,500),z2g l k) (by simp)
 have hH1:=hH ((0,8),_) (List.mem_cons_of_mem _ (List.mem_cons_self))
 refine z0g Tryz.func52 (by kernel_rfl) rfl (by simp) ?_
 dsimp only[Tryz.f52]
 refine z4g 500 0 500 hH0 rfl rfl ?_
 refine z4g 501 0 8 (by simp only[upd];rw[zAx (by simp)];exact hH1) rfl rfl ?_
 refine z0e (tm':=[(0,.ptr (0,500) 0),(1,.ptr (0,501) 0),(100500,.al (0,500) (1,500)),(100501,.al (0,501) (1,8))]) (hp':=[(500,z2g l k),(501,.box [.d A,.d (.slice (ts.map fun t=>[strs t])),.d X,.d R,.d N,.d (.lit z1k),.d (.lit z1k)])]) ?_ rfl rfl
 repeat' (first|(apply z04;(first|refine z0l ?_| (apply z0a;(refine z02 z18 rfl rfl ?_))|(apply z0d;(refine z02 z1a rfl rfl ?_))|(apply z0x;(refine z02 (z0y rfl) rfl rfl ?_))))|(apply z05;(first|refine z0k ?_|apply z09))|(apply z06;(first|apply z07|apply z00|apply z01)))
 refine zxp 5 rfl ?_
 refine z0t ?_
 refine z0e (z1v (fun q:Nat × List Int × Nat=>⟨102,[(0,.ptr (0,500) 0),(1,.ptr (0,501) 0),(4,I .i64 ts.length),(5,.d (ints q.2.1)),(6,I .i64 q.1),(100500,.al (0,500) (1,500)),(100501,.al (0,501) (1,8))],[(500,z2g l q.2.2),(501,.box [.d A,.d (.slice (ts.map fun t=>[strs t])),.d X,.d R,.d N,.d (.lit z1k),.d (.lit z1k)])],upd (upd H (0,500) .gone) (0,8) .gone⟩)
  (fun q=>q.1≤ts.length∧q.2.1.length=q.1∧q.2.1.Nodup∧(∀ x∈q.2.1,0≤x∧x<q.1)∧q.2.2≤120) (fun q=>ts.length-q.1) ?_ ⟨0,[],k⟩ ⟨zAf _,rfl,List.nodup_nil,by simp,hk⟩) rfl rfl
 intro ⟨i,ord,kt⟩ ⟨h1,h2,h3,h4,h5⟩ ih
 simp only at h1 h2 h3 h4 h5 ih ⊢
 by_cases hlt:i<ts.length
 · repeat' (first|(apply z04;(first|refine z0l ?_| (apply z0z;(refine z02 (z14 z1p) rfl rfl ?_))|(apply z0j;((refine z5c (zbm l kt (i+1) 500 hl h5 (by omega)) rfl rfl (by decide) ?_;rintro⟨v,kt'⟩ ⟨hv1,hv2,hv3⟩;simp only at hv1 hv2 hv3 ⊢)))))|(apply z05;(first|refine z0k ?_|apply z09))|(apply z06;(first|apply z07|apply z00|apply z08|apply z01|apply z2z|apply z03|refine z0h (fun _=>?_) (fun _=>?_)| refine z0o ?_))|(apply z2v;(first|(apply z1l;refine z2n mix ?_)|refine z3h ?_| (apply z6e;(first|refine z0w (z6m rfl (by omega) (by omega) (fun _=>rfl)) rfl rfl ?_| refine z0w (zkv rfl (by omega) (by omega) (fun _=>rfl)) rfl rfl ?_))|(apply z3n;(first|refine zat (by first|exact rfl|exact⟨_,rfl,rfl,rfl⟩) rfl rfl rfl rfl rfl (fun _=>rfl) rfl rfl (by decide) (by simp;omega) ?_|refine z9k (by first|exact rfl|exact⟨_,rfl,rfl,rfl⟩) rfl rfl _ rfl rfl rfl rfl rfl rfl rfl (by decide) (by simp;omega) ?_))|(apply z5l;(first|refine zqv (lp:=[]) (ys:=([]:List Int).map fun x=>[z3c x]) (by first|exact rfl|exact⟨_,rfl,rfl,rfl⟩) rfl rfl rfl rfl rfl rfl rfl rfl rfl (by decide) ?_|refine z61 rfl ?_)))))
   · obtain⟨f1,f2,f3⟩:=zlf (v:=v) h2 h3 h4
     refine z19 38 rfl ?_
     have e:[]++ord.take v.toNat++[(i:Int)]++ord.drop v.toNat=ord.take v.toNat++(i:Int)::ord.drop v.toNat:=by simp
     rw[e]
     exact z0e (ih ⟨i+1,ord.take v.toNat++(i:Int)::ord.drop v.toNat,kt'⟩ ⟨by omega,f1,f2,f3,hv3⟩ (by simp only;omega)) rfl rfl
   · exfalso;omega
 · repeat' (first|(apply z04;(first|refine z0l ?_| (apply z0z;(refine z02 (z14 z1p) rfl rfl ?_))|(apply z0x;(refine z02 (z0y rfl) rfl rfl ?_))))|(apply z05;(first|refine z0k ?_|apply z09))|(apply z06;(first|apply z07|apply z00|apply z08|apply z01|apply z2z|refine z0h (fun _=>?_) (fun _=>?_)| refine z0o ?_))|(apply z2v;(first|(apply z1l;refine z2n mix ?_)|refine z3h ?_| (apply zh7;(first|refine zij (xs:=(List.replicate ts.length (⟨#[]⟩:Str)).map fun x=>[z5p x]) (by first|exact rfl|exact⟨_,rfl,rfl,rfl⟩) rfl rfl (by omega) (by omega) rfl rfl rfl (by decide) (by rw[List.map_replicate];rfl) ?_|refine zij (xs:=(List.replicate ts.length (0:Int)).map fun x=>[z3c x]) (by first|exact rfl|exact⟨_,rfl,rfl,rfl⟩) rfl rfl (by omega) (by omega) rfl rfl rfl (by decide) (by rw[List.map_replicate];rfl) ?_)))))
   · exfalso;omega
   obtain rfl:i=ts.length:=by omega
   refine z0t ?_
   refine z0e (z1v (fun q:Nat × List Int × List Str × Bool × Nat=>⟨102,[(0,.ptr (0,500) 0),(1,.ptr (0,501) 0),(5,.d (ints ord)),(8,.ref (0,40)),(9,.ref (0,42)),(10,B q.2.2.2.1),(43,.d (ints ord)),(44,I .i64 ord.length),(45,I .i64 q.1),(100500,.al (0,500) (1,500)),(100501,.al (0,501) (1,8))],
    [(40,.row 3 1 (q.2.1.map fun x=>[z3c x])),(42,.row 9 1 (q.2.2.1.map fun x=>[z5p x])),(500,z2g l q.2.2.2.2),(501,.box [.d A,.d (.slice (ts.map fun t=>[strs t])),.d X,.d R,.d N,.d (.lit z1k),.d (.lit z1k)])],upd (upd H (0,500) .gone) (0,8) .gone⟩)
    (fun q=>q.1≤ts.length∧q.2.1.length=ts.length∧q.2.2.1.length=ts.length∧q.2.2.2.2≤120∧(∀ s∈q.2.2.1,s.size≤10)∧∀ (j:Nat) (x:Int),j<q.1→ord[j]? =some x→∃ h:Int,q.2.1[x.toNat]? =some h∧(h=-1∨∃ q:Nat,q<j∧ord[q]? =some h))
    (fun q=>ts.length-q.1) ?_ ⟨0,List.replicate ts.length 0,List.replicate ts.length ⟨#[]⟩,false,kt⟩ ⟨zAf _,by simp,by simp,h5,by intro s hs;simp at hs;rw[hs.2];decide,by simp⟩) rfl rfl
   intro ⟨p,hq,rq,sm,kz⟩ ⟨g1,g2,g3,g4,g5,g6⟩ ih2
   simp only at g1 g2 g3 g4 g5 g6 ih2 ⊢
   by_cases hlp:p<ord.length
   · obtain⟨x,hx⟩:∃ x,ord[p]? =some x:=⟨_,zA0 hlp⟩
     have hxr:=h4 x (zA2 hx)
     obtain⟨z,hz⟩:∃ z,hq[x.toNat]? =some z:=⟨_,zA0 (by omega)⟩
     obtain⟨r0,hr0⟩:∃ z,rq[x.toNat]? =some z:=⟨_,zA0 (by omega)⟩
     have hzs:∀ v:Int,(hq.set x.toNat v)[x.toNat]? =some v:=fun v=>zAo (by omega)
     have hzt:∀ u v:Int,((hq.set x.toNat u).set x.toNat v)[x.toNat]? =some v:=fun u v=>zAo (by simp;omega)
     have hrs:∀ v:Str,(rq.set x.toNat v)[x.toNat]? =some v:=fun v=>zAo (by omega)
     repeat' (first|(apply z04;(first|refine z0l ?_| (apply z0a;(first|refine z02 (z2e (hzs _) rfl rfl rfl) rfl rfl ?_| refine z02 (z2e (hzt _ _) rfl rfl rfl) rfl rfl ?_| refine z02 (z2e hr0 rfl rfl rfl) rfl rfl ?_| refine z02 (z2e (hrs _) rfl rfl rfl) rfl rfl ?_| refine z02 z2p rfl rfl ?_))|(apply z0d;(refine z02 z1a rfl rfl ?_))|(apply z0n;(first|refine z02 (z1o rfl (idx hx)) rfl rfl ?_| refine z02 (z25 rfl (by omega) (by simp;omega) rfl) rfl rfl ?_))|(apply z0z;(refine z02 (z14 z1p) rfl rfl ?_))|(apply z0j;((refine z5c (zbm l kz 4 500 hl g4 (by decide)) rfl rfl (by decide) ?_;rintro⟨v,kt'⟩ ⟨hv1,hv2,hv3⟩;simp only at hv1 hv2 hv3 ⊢)))|(apply z0f;(first|refine z27 (-1) (by rfl) (by rfl) (by rfl) (by rfl) hz (by rfl) (by rfl) (by rfl) (by rfl) ?_|refine z2d ?_))))|(apply z05;(first|refine z0k ?_|apply z09|refine z1m ?_| refine z1t (fun _=>?_) (fun _=>?_)| refine z3v rfl rfl (fun _=>?_) (fun _=>?_)|refine zao rfl rfl (fun _=>?_) (fun _=>?_)))|(apply z06;(first|apply z07|apply z00|refine z1f ?_| apply z08|apply z01|apply z2z|apply z03|refine z0h (fun _=>?_) (fun _=>?_)| refine z2i rfl (fun _=>?_) (fun _=>?_)|refine z0o ?_))|(apply z2v;(first|(apply z1l;refine z2n mix ?_)|refine z3h ?_| (apply z0u;(refine z0w z2p rfl rfl ?_))|(apply z1n;(first|refine z0w (z25 rfl (by omega) (by simp;omega) rfl) rfl rfl ?_| refine z0w (z23 rfl (tn0 (by omega)) (z6u (zez (tn0 (by omega)) (Int.lt_trans (tn1 (by omega)) (by omega)))) rfl) rfl rfl ?_| refine z0w (z23 rfl (tn0 (by omega)) (z6u (z3j (l:=zst) (tn0 (by decide)) (Int.lt_of_lt_of_le (tn1 (by decide)) (by decide)))) rfl) rfl rfl ?_))|(apply z22;(first|refine zk9 (z7e l kt' (p:Int) 0 500 hl hv3 (by omega)) (by first|exact rfl|exact⟨_,rfl,rfl,rfl⟩) rfl rfl (by decide) ?_|refine zk9 (z7e l (z1u l kt') 3 0 500 hl (z52 hl hv3) (by decide)) (by first|exact rfl|exact⟨_,rfl,rfl,rfl⟩) rfl rfl (by decide) ?_))|(apply z2k;(first|refine zbs (oAt ord (z47 l kt' (p:Int))) (by first|exact rfl|exact⟨_,rfl,rfl,rfl⟩) (by rfl) (by rfl) (by rfl) (by rfl) (hzs _) (by rfl) (by rfl) (by rfl) (by rfl) ?_|refine zbs (atL zst (z47 l (z1u l kt') 3)) (by first|exact rfl|exact⟨_,rfl,rfl,rfl⟩) (by rfl) (by rfl) (by rfl) (by rfl) hr0 (by rfl) (by rfl) (by rfl) (by rfl) ?_))|(apply z5l;(refine z61 (ys:=zst.map fun x=>[z5p x]) rfl ?_)))))
     all_goals try (exfalso;omega)
     all_goals try (exact z0e (ih2 ⟨p+1,hq.set x.toNat (-1),rq,_,kt'⟩ ⟨by omega,by simpa using g2,g3,hv3,g5,z8r h3 h4 g2 hx g6 (.inl rfl)⟩ (by simp only;omega)) rfl rfl)
     all_goals try (exact z0e (ih2 ⟨p+1,hq.set x.toNat (-1),rq,_,kz⟩ ⟨by omega,by simpa using g2,g3,g4,g5,z8r h3 h4 g2 hx g6 (.inl rfl)⟩ (by simp only;omega)) rfl rfl)
     all_goals
      have hb0:=tn0 (l:=l) (k:=kt') (n:=(p:Int)) (by omega)
      have hb1:=tn1 (l:=l) (k:=kt') (n:=(p:Int)) (by omega)
      have hfs:=z8r (v:=oAt ord (z47 l kt' (p:Int))) h3 h4 g2 hx g6 (.inr ⟨(z47 l kt' (p:Int)).toNat,by omega,zez hb0 (by omega)⟩)
      rw[← List.set_set (a:=(-1:Int))] at hfs
      refine z0e (ih2 ⟨p+1,(hq.set x.toNat (-1)).set x.toNat (oAt ord (z47 l kt' (p:Int))),rq.set x.toNat (atL zst (z47 l (z1u l kt') 3)),_,z1u l (z1u l kt')⟩ ⟨by omega,by simpa using g2,by simpa using g3,z52 hl (z52 hl hv3),?_,hfs⟩ (by simp only;omega)) rfl rfl
      intro s hs
      rcases List.mem_or_eq_of_mem_set hs with hs|rfl
      · exact g5 s hs
      · exact zmp _ (zdy (l:=zst) (i:=z47 l (z1u l kt') 3) (tn0 (by decide)) (Int.lt_of_lt_of_le (tn1 (by decide)) (by decide)))
   · refine z19 40 rfl ?_
     refine z19 42 rfl ?_
     repeat' (first|(apply z04;(first|refine z0l ?_| (apply z0d;(refine z02 z1a rfl rfl ?_))|(apply z0f;(refine z2d ?_))))|(apply z05;(first|refine z0k ?_|apply z09))|(apply z06;(first|apply z07|apply z00|apply z08|apply z01|refine z0h (fun _=>?_) (fun _=>?_)| refine z2i rfl (fun _=>?_) (fun _=>?_)|refine z0o ?_)))
     · exfalso;omega
     · refine z39 501 0 8 (raw:=.box [.d A,.d (.slice (ts.map fun t=>[strs t])),.d X,.d R,.d N,.d (ints hq),.d (strs rq)]) rfl rfl rfl rfl rfl ?_
       refine z39 500 0 500 (raw:=z2g l kz) rfl rfl rfl rfl rfl ?_
       refine zfm Tryz.func52 _ (z5m rfl) ⟨(hq,rq,kz),⟨.inr ⟨g2,g3,ord,h2,h3,h4,fun j x hx=>g6 j x (by have:=(zA1.1 hx).1;omega) hx⟩,g5,g4⟩,rfl,?_⟩
       have e1:znt hq=.d (ints hq):=by cases hq with|nil=>simp at g2;omega|cons a b=>rfl
       have e2:zph rq=.d (strs rq):=by cases rq with|nil=>simp at g3;omega|cons a b=>rfl
       simp only[e1,e2]
       exact zov H _ _
     · refine z39 501 0 8 (raw:=.box [.d A,.d (.slice (ts.map fun t=>[strs t])),.d X,.d R,.d N,.d (.lit z1k),.d (.lit z1k)]) rfl rfl rfl rfl rfl ?_
       refine z39 500 0 500 (raw:=z2g l kz) rfl rfl rfl rfl rfl ?_
       exact zfm Tryz.func52 _ (z5m rfl) ⟨([],[],kz),⟨.inl ⟨rfl,rfl⟩,by simp,g4⟩,rfl,zov H _ _⟩
end Go.Proofs.YtonhfccmeammbaaGreatDoor
