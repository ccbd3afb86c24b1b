/- A part. -/
import Derived.Test.YtonhfccmeammbaaGreatDoorVTB
set_option linter.all false
open Go.Proofs.Tryz
namespace Go.Proofs.YtonhfccmeammbaaGreatDoor
open Go.Ab
set_option maxHeartbeats 20000000
attribute [local irreducible] Run Ops Op1 z1z Val Tr z0q z1v NF Rel
theorem y02(l:List Node)(c:z10)(hc:Small c)(hl:l.length≤1000000)(hs:∀x∈l,x.label.size≤1000000)(hp:∀(i:Nat) (x:Node),l[i]? =some x→-1≤x.parent∧x.parent<i):NF prog 117 [.d (.slice (l.map Node.cs)),c.d] y14:=by
 refine z5u fun H=>?_
 refine z0g func117 (by kernel_rfl) rfl (by simp) ?_
 dsimp only[f117]
 repeat' first|(apply z05;first|refine z0n ?_| (apply z0s;refine z02 (z0w rfl) rfl rfl ?_)|(apply z18;refine z0b z1m ?_)|(apply zpm;refine zoy (xs:=(List.replicate l.length 0).map fun x=>[z2g x]) rfl rfl (by omega) (by omega) rfl rfl rfl (by decide) (by simp) ?_))|(apply z06;first|refine z0m ?_|(apply z3n;refine z3o [0,1,3,4,5,6,7,8,9,10,11,14,18,19,20,21,25,31,49,61,65,82,95,105,113,125,100500,100501] (by repeat' (first|exact z2n.nil|apply z2n.yes rfl|apply z2n.no)) (by repeat' (first|exact z13.nil|apply z13.old rfl|apply z13.gone|apply z13.new rfl)) ?_))|(apply z07;first|apply z08|apply z00|apply z04|apply z01|refine z0h (fun _=>?_) fun _=>?_)
 all_goals try first|exact z0e func117 _ z2s ⟨_,rfl,⟨_,_,rfl⟩,rfl⟩|(exfalso;(try clear ih1);(try clear ih2);(try clear ih3);(try clear hm14);(try clear hm18);(try clear hm25);omega)|((fail_if_success (refine z0r ?_));exfalso;(try clear ih1);(try clear ih2);(try clear ih3);(try clear hm14);(try clear hm18);(try clear hm25);simp_all;done)
 all_goals
  refine z0r ?_
  refine z0d (z1o (fun q:Nat × List Int=>⟨128,[(0,PV.lift 1 (PV.d (D.slice (List.map Node.cs l)))),(3,PV.ptr (0,3) 0),(6,PV.ref (0,17)),(18,PV.lift 1 (PV.d (D.slice (List.map Node.cs l)))),(19,I IntKind.i64 (↑l.length:Int)),(20,I .i64 (q.1:Nat))],[(3,Blk.box (List.map PV.d c.cs)),(17,.row 3 1 (q.2.map fun x=>[z2g x]))],H⟩) (fun q:Nat × List Int=>q.1≤l.length∧q.2.length=l.length∧(∀x∈q.2,0≤x∧x≤q.1)) (fun q:Nat × List Int=>l.length-q.1) ?_ ⟨0,List.replicate l.length 0⟩ ⟨zAf _,by simp,by simp⟩) rfl rfl
  intro⟨k1,q1⟩ hk1 ih1
  simp only at hk1 ih1⊢
  by_cases hlt1:k1<l.length
  case pos =>
   obtain⟨x1,hx1⟩:∃x,l[k1]? =some x:=⟨_,zA0 (by omega)⟩
   have hn1:=hs x1 (zA2 hx1)
   have hp1:=hp k1 x1 hx1
   obtain⟨z1,hz1⟩:∃x,q1[((k1:Nat):Int).toNat]? =some x:=⟨_,zA0 (by omega)⟩
   obtain⟨w1,hw1⟩:∃x,q1[x1.parent.toNat]? =some x:=⟨_,zA0 (by omega)⟩
   have hbz:=hk1.2.2 z1 (zA2 hz1)
   have hbw:=hk1.2.2 w1 (zA2 hw1)
   have hzs:∀(L:List Int) (v:Int),L.length=l.length→(L.set ((k1:Nat):Int).toNat v)[((k1:Nat):Int).toNat]? =some v:=fun L v hL=>zAp (by omega)
   have hst:∀(L:List Int) (v:Int),L.length=l.length→(∀x∈L,0≤x∧x≤(k1:Int))→0≤v→v≤(k1:Int)+1→k1+1≤l.length∧(L.set ((k1:Nat):Int).toNat v).length=l.length∧(∀x∈L.set ((k1:Nat):Int).toNat v,0≤x∧x≤((k1+1:Nat):Int)):=fun L v hL hx h0 h1=>⟨by omega,by simpa using hL,fun x hm=>by rcases List.mem_or_eq_of_mem_set hm with hm|rfl;(have:=hx x hm;omega);omega⟩
   have hsw:∀x∈q1.set ((k1:Nat):Int).toNat w1,0≤x∧x≤(k1:Int):=fun x hm=>by rcases List.mem_or_eq_of_mem_set hm with hm|rfl;exact hk1.2.2 x hm;omega
   repeat' first|(apply z05;first|refine z0n ?_| (apply z0a;first|refine z02 z1r rfl rfl ?_| refine z02 z16 rfl rfl ?_| refine z02 z1w rfl rfl ?_)|(apply z0c;refine z02 z0i rfl rfl ?_)|(apply z0k;refine z02 (z1a rfl (idx hx1)) rfl rfl ?_)|(apply z0t;refine z02 (z2l z1h) rfl rfl ?_)|(apply z0j;first|(refine z8h (z5t _ (by omega)) rfl (by decide) (fun p hp=>?_);obtain⟨_,rfl⟩:=hp)|(refine z8h (zlj _ _ _ hc) rfl (by decide) (fun p hp=>?_);obtain⟨_,rfl⟩:=hp))|(apply z0f;refine z25 ?_)|(apply z0l;refine z0b z2e ?_))|(apply z06;first|refine z0m ?_|(apply z3n;refine z3o [0,1,3,4,5,6,7,8,9,10,11,14,18,19,20,21,25,31,49,61,65,82,95,105,113,125,100500,100501] (by repeat' (first|exact z2n.nil|apply z2n.yes rfl|apply z2n.no)) (by repeat' (first|exact z13.nil|apply z13.old rfl|apply z13.gone|apply z13.new rfl)) ?_))|(apply z07;first|apply z08|apply z00|apply z04|apply z01|apply z03|refine z0h (fun _=>?_) (fun _=>?_)| refine z2q rfl (fun _=>?_) (fun _=>?_)|refine z0o ?_)
   all_goals try first|exact z0e func117 _ z2s ⟨_,rfl,⟨_,_,rfl⟩,rfl⟩|(first|exact z0d (ih1 ⟨k1+1,q1.set ((k1:Nat):Int).toNat (z1+1)⟩ (hst q1 (z1+1) hk1.2.1 hk1.2.2 (by omega) (by omega)) (by simp;omega)) rfl rfl|exact z0d (ih1 ⟨k1+1,(q1.set ((k1:Nat):Int).toNat w1).set ((k1:Nat):Int).toNat (w1+1)⟩ (hst _ (w1+1) (by simpa using hk1.2.1) hsw (by omega) (by omega)) (by simp;omega)) rfl rfl)|(exfalso;(try clear ih1);(try clear ih2);(try clear ih3);(try clear hm14);(try clear hm18);(try clear hm25);omega)|((fail_if_success (refine z0r ?_));exfalso;(try clear ih1);(try clear ih2);(try clear ih3);(try clear hm14);(try clear hm18);(try clear hm25);simp_all;done)
   all_goals
    refine z0r ?_
    refine z0d (z1o (fun m2_9:Int=>⟨128,[(0,PV.lift 1 (PV.d (D.slice (List.map Node.cs l)))),(3,PV.ptr (0,3) 0),(6,PV.ref (0,17)),(7,I IntKind.i64 (↑k1:Int)),(8,PV.ptr (0,8) 0),(9,I .i64 m2_9),(18,PV.lift 1 (PV.d (D.slice (List.map Node.cs l)))),(19,I IntKind.i64 (↑l.length:Int)),(20,I IntKind.i64 (↑k1:Int))],[(8,Blk.box (z1b (z5q ({ size:=4,bytes:=40,kind:=TK.struct,fields:=[(0,1),(1,1),(2,1),(3,1)],zero:=[Value.string { data:=#[] },Value.int IntKind.i64 0,Value.int IntKind.i64 0,Value.int IntKind.i64 0] }:TI).zero) 0 (List.map PV.d x1.cs))),(3,Blk.box (List.map PV.d c.cs)),(17,Blk.row 3 1 (List.map (fun x=>[z2g x]) q1))],H⟩) (fun m2_9:Int=> -1≤m2_9∧m2_9<k1) (fun m2_9:Int=>(m2_9+1).toNat) ?_ ((k1:Int)-1) (by omega)) rfl rfl
    intro m2_9 hk2 ih2
    obtain⟨pp,hpp⟩:∃x,l[x1.parent.toNat]? =some x:=⟨_,zA0 (by omega)⟩
    by_cases hlt2:0≤m2_9∧m2_9≠x1.parent
    case pos =>
     obtain⟨x2,hx2⟩:∃x,l[m2_9.toNat]? =some x:=⟨_,zA0 (by omega)⟩
     have hp2:=hp _ x2 hx2
     repeat' first|(apply z05;first|refine z0n ?_| (apply z0a;first|refine z02 (z23 hw1 rfl rfl rfl) rfl rfl ?_| refine z02 z16 rfl rfl ?_| refine z02 z2f rfl rfl ?_| refine z02 z1w rfl rfl ?_)|(apply z0c;first|refine z02 z0i rfl rfl ?_| refine z02 (z5o rfl rfl) rfl rfl ?_)|(apply z0k;first|refine z02 (z4r rfl (by simp;omega)) rfl rfl ?_| refine z02 (z1a rfl (z6h hpp)) rfl rfl ?_| refine z02 (z1a rfl (z6h hx2)) rfl rfl ?_)|(apply z0t;refine z02 (z2l z1h) rfl rfl ?_)|(apply z0f;first|refine z22 w1 (by rfl) (by rfl) (by rfl) (by rfl) hz1 (by rfl) (by rfl) (by rfl) (by rfl) ?_|refine z25 ?_)|(apply z0l;refine z0b z2e ?_))|(apply z06;first|refine z0m ?_|(apply z3n;refine z3o [0,1,3,4,5,6,7,8,9,10,11,14,18,19,20,21,25,31,49,61,65,82,95,105,113,125,100500,100501] (by repeat' (first|exact z2n.nil|apply z2n.yes rfl|apply z2n.no)) (by repeat' (first|exact z13.nil|apply z13.old rfl|apply z13.gone|apply z13.new rfl)) ?_)|refine z1g ?_| refine z1p (fun _=>?_) fun _=>?_)|(apply z07;first|(refine zct (b:= ?_) hm14 ?_ ?_ ?_;rotate_left;(exact rfl);(exact rfl);exact rfl)|(refine zct (b:= ?_) hm18 ?_ ?_ ?_;rotate_left;(exact rfl);(exact rfl);exact rfl)|refine z7o 14 61 (fun b14=>?_) (fun hm14=>?_)|refine z7o 18 82 (fun b18=>?_) (fun hm18=>?_)|apply z08|apply z00|refine z15 ?_| apply z04|apply z01|apply z03|refine z0h (fun _=>?_) (fun _=>?_)| refine z38 rfl (fun _=>?_) (fun _=>?_)|refine z2q rfl (fun _=>?_) (fun _=>?_)|refine z0o ?_)
     all_goals try first|exact z0e func117 _ z2s ⟨_,rfl,⟨_,_,rfl⟩,rfl⟩|exact z0d (ih2 x2.parent (by omega) (by omega)) rfl rfl|(first|exact z0d (ih1 ⟨k1+1,q1.set ((k1:Nat):Int).toNat (z1+1)⟩ (hst q1 (z1+1) hk1.2.1 hk1.2.2 (by omega) (by omega)) (by simp;omega)) rfl rfl|exact z0d (ih1 ⟨k1+1,(q1.set ((k1:Nat):Int).toNat w1).set ((k1:Nat):Int).toNat (w1+1)⟩ (hst _ (w1+1) (by simpa using hk1.2.1) hsw (by omega) (by omega)) (by simp;omega)) rfl rfl)|(exfalso;(try clear ih1);(try clear ih2);(try clear ih3);(try clear hm14);(try clear hm18);(try clear hm25);omega)|((fail_if_success (refine z0r ?_));exfalso;(try clear ih1);(try clear ih2);(try clear ih3);(try clear hm14);(try clear hm18);(try clear hm25);simp_all;done)
    case neg =>
     repeat' first|(apply z05;first|refine z0n ?_| (apply z0a;first|refine z02 (z23 hw1 rfl rfl rfl) rfl rfl ?_| refine z02 z16 rfl rfl ?_| refine z02 z1w rfl rfl ?_)|(apply z0c;refine z02 z0i rfl rfl ?_)|(apply z0k;first|refine z02 (z4r rfl (by simp;omega)) rfl rfl ?_| refine z02 (z1a rfl (z6h hpp)) rfl rfl ?_)|(apply z0t;refine z02 (z2l z1h) rfl rfl ?_)|(apply z0f;first|refine z22 w1 (by rfl) (by rfl) (by rfl) (by rfl) hz1 (by rfl) (by rfl) (by rfl) (by rfl) ?_|refine z25 ?_)|(apply z0l;refine z0b z2e ?_))|(apply z06;first|refine z0m ?_|(apply z3n;refine z3o [0,1,3,4,5,6,7,8,9,10,11,14,18,19,20,21,25,31,49,61,65,82,95,105,113,125,100500,100501] (by repeat' (first|exact z2n.nil|apply z2n.yes rfl|apply z2n.no)) (by repeat' (first|exact z13.nil|apply z13.old rfl|apply z13.gone|apply z13.new rfl)) ?_)|refine z1g ?_| refine z1p (fun _=>?_) fun _=>?_)|(apply z07;first|(refine zct (b:= ?_) hm14 ?_ ?_ ?_;rotate_left;(exact rfl);(exact rfl);exact rfl)|(refine zct (b:= ?_) hm18 ?_ ?_ ?_;rotate_left;(exact rfl);(exact rfl);exact rfl)|refine z7o 14 61 (fun b14=>?_) (fun hm14=>?_)|refine z7o 18 82 (fun b18=>?_) (fun hm18=>?_)|apply z08|apply z00|refine z15 ?_| apply z04|apply z01|refine z0h (fun _=>?_) (fun _=>?_)| refine z38 rfl (fun _=>?_) (fun _=>?_)|refine z2q rfl (fun _=>?_) (fun _=>?_)|refine z0o ?_)
     all_goals try first|exact z0e func117 _ z2s ⟨_,rfl,⟨_,_,rfl⟩,rfl⟩|(first|exact z0d (ih1 ⟨k1+1,q1.set ((k1:Nat):Int).toNat (z1+1)⟩ (hst q1 (z1+1) hk1.2.1 hk1.2.2 (by omega) (by omega)) (by simp;omega)) rfl rfl|exact z0d (ih1 ⟨k1+1,(q1.set ((k1:Nat):Int).toNat w1).set ((k1:Nat):Int).toNat (w1+1)⟩ (hst _ (w1+1) (by simpa using hk1.2.1) hsw (by omega) (by omega)) (by simp;omega)) rfl rfl)|(exfalso;(try clear ih1);(try clear ih2);(try clear ih3);(try clear hm14);(try clear hm18);(try clear hm25);omega)|((fail_if_success (refine z0r ?_));exfalso;(try clear ih1);(try clear ih2);(try clear ih3);(try clear hm14);(try clear hm18);(try clear hm25);simp_all;done)
     ·exact zD1
     ·exact zD1
     ·skip
      refine z0r ?_
      refine z0d (z1o (fun m3_11:Int=>⟨128,[(0,PV.lift 1 (PV.d (D.slice (List.map Node.cs l)))),(3,PV.ptr (0,3) 0),(6,PV.ref (0,17)),(7,I IntKind.i64 (↑k1:Int)),(8,PV.ptr (0,8) 0),(11,I .i64 m3_11),(18,PV.lift 1 (PV.d (D.slice (List.map Node.cs l)))),(19,I IntKind.i64 (↑l.length:Int)),(20,I IntKind.i64 (↑k1:Int))],[(8,Blk.box (z1b (z5q ({ size:=4,bytes:=40,kind:=TK.struct,fields:=[(0,1),(1,1),(2,1),(3,1)],zero:=[Value.string { data:=#[] },Value.int IntKind.i64 0,Value.int IntKind.i64 0,Value.int IntKind.i64 0] }:TI).zero) 0 (List.map PV.d x1.cs))),(3,Blk.box (List.map PV.d c.cs)),(17,Blk.row 3 1 (List.map (fun x=>[z2g x]) q1))],H⟩) (fun m3_11:Int=> -1≤m3_11∧m3_11<k1) (fun m3_11:Int=>(m3_11+1).toNat) ?_ ((k1:Int)-1) (by omega)) rfl rfl
      intro m3_11 hk3 ih3
      by_cases hlt3:0≤m3_11
      case pos =>
       obtain⟨x3,hx3⟩:∃x,l[m3_11.toNat]? =some x:=⟨_,zA0 (by omega)⟩
       repeat' first|(apply z05;first|refine z0n ?_| (apply z0a;first|refine z02 (z23 hz1 rfl rfl rfl) rfl rfl ?_| refine z02 (z23 (hzs _ _ (by simpa using hk1.2.1)) rfl rfl rfl) rfl rfl ?_)|(apply z0k;refine z02 (z4r rfl (by simp;omega)) rfl rfl ?_)|(apply z0t;first|refine z02 (z0z z1h) rfl rfl ?_| refine z02 (z2l z1h) rfl rfl ?_)|(apply z0f;refine z22 (z1+1) (by rfl) (by rfl) (by rfl) (by rfl) hz1 (by rfl) (by rfl) (by rfl) (by rfl) ?_))|(apply z06;first|refine z0m ?_|(apply z3n;refine z3o [0,1,3,4,5,6,7,8,9,10,11,14,18,19,20,21,25,31,49,61,65,82,95,105,113,125,100500,100501] (by repeat' (first|exact z2n.nil|apply z2n.yes rfl|apply z2n.no)) (by repeat' (first|exact z13.nil|apply z13.old rfl|apply z13.gone|apply z13.new rfl)) ?_))|(apply z07;first|(refine zct (b:= ?_) hm25 ?_ ?_ ?_;rotate_left;(exact rfl);(exact rfl);exact rfl)|refine zgy 25 113 (fun b25=>?_) (fun hm25=>?_)|apply z08|apply z00|apply z04|apply z01|apply z2o|apply z03|refine z0h (fun _=>?_) (fun _=>?_)| refine z2q rfl (fun _=>?_) (fun _=>?_)|refine z0o ?_)|(apply z2m;first|(apply z1e;refine z97 [0,1,3,4,5,6,7,8,9,10,11,14,18,19,20,21,25,31,49,61,65,82,95,105,113,125,100500,100501] mix (by kernel_rfl) (by repeat' (first|exact z2n.nil|apply z2n.yes rfl|apply z2n.no)) (by repeat' (first|exact z13.nil|apply z13.old rfl|apply z13.gone|apply z13.new rfl)) ?_)|refine z2w ?_| (apply z0v;first|refine z0x z16 rfl rfl ?_| refine z0x z2f rfl rfl ?_)|(apply z0u;first|refine z0x z0i rfl rfl ?_| refine z0x (z5o rfl rfl) rfl rfl ?_)|(apply z1i;refine z0x (z1a rfl (z6h hx3)) rfl rfl ?_))
       all_goals try first|exact z0e func117 _ z2s ⟨_,rfl,⟨_,_,rfl⟩,rfl⟩|exact z0d (ih3 (m3_11-1) (by omega) (by omega)) rfl rfl|(first|exact z0d (ih1 ⟨k1+1,q1.set ((k1:Nat):Int).toNat (z1+1)⟩ (hst q1 (z1+1) hk1.2.1 hk1.2.2 (by omega) (by omega)) (by simp;omega)) rfl rfl|exact z0d (ih1 ⟨k1+1,(q1.set ((k1:Nat):Int).toNat w1).set ((k1:Nat):Int).toNat (w1+1)⟩ (hst _ (w1+1) (by simpa using hk1.2.1) hsw (by omega) (by omega)) (by simp;omega)) rfl rfl)|(exfalso;(try clear ih1);(try clear ih2);(try clear ih3);(try clear hm14);(try clear hm18);(try clear hm25);omega)|((fail_if_success (refine z0r ?_));exfalso;(try clear ih1);(try clear ih2);(try clear ih3);(try clear hm14);(try clear hm18);(try clear hm25);simp_all;done)
      case neg =>
       repeat' first|(apply z05;first|refine z0n ?_| (apply z0a;first|refine z02 (z23 hz1 rfl rfl rfl) rfl rfl ?_| refine z02 (z23 (hzs _ _ (by simpa using hk1.2.1)) rfl rfl rfl) rfl rfl ?_)|(apply z0k;refine z02 (z4r rfl (by simp;omega)) rfl rfl ?_)|(apply z0t;refine z02 (z0z z1h) rfl rfl ?_)|(apply z0f;refine z22 (z1+1) (by rfl) (by rfl) (by rfl) (by rfl) hz1 (by rfl) (by rfl) (by rfl) (by rfl) ?_))|(apply z06;first|refine z0m ?_|(apply z3n;refine z3o [0,1,3,4,5,6,7,8,9,10,11,14,18,19,20,21,25,31,49,61,65,82,95,105,113,125,100500,100501] (by repeat' (first|exact z2n.nil|apply z2n.yes rfl|apply z2n.no)) (by repeat' (first|exact z13.nil|apply z13.old rfl|apply z13.gone|apply z13.new rfl)) ?_))|(apply z07;first|apply z08|apply z00|apply z04|apply z01|apply z2o|apply z03|refine z0h (fun _=>?_) (fun _=>?_)| refine z0o ?_)|(apply z2m;refine z2w ?_)
       all_goals try first|exact z0e func117 _ z2s ⟨_,rfl,⟨_,_,rfl⟩,rfl⟩|(first|exact z0d (ih1 ⟨k1+1,q1.set ((k1:Nat):Int).toNat (z1+1)⟩ (hst q1 (z1+1) hk1.2.1 hk1.2.2 (by omega) (by omega)) (by simp;omega)) rfl rfl|exact z0d (ih1 ⟨k1+1,(q1.set ((k1:Nat):Int).toNat w1).set ((k1:Nat):Int).toNat (w1+1)⟩ (hst _ (w1+1) (by simpa using hk1.2.1) hsw (by omega) (by omega)) (by simp;omega)) rfl rfl)|(exfalso;(try clear ih1);(try clear ih2);(try clear ih3);(try clear hm14);(try clear hm18);(try clear hm25);omega)|((fail_if_success (refine z0r ?_));exfalso;(try clear ih1);(try clear ih2);(try clear ih3);(try clear hm14);(try clear hm18);(try clear hm25);simp_all;done)
  case neg =>
   repeat' first|(apply z05;refine z0n ?_)|(apply z06;first|refine z0m ?_|(apply z3n;refine z3o [0,1,3,4,5,6,7,8,9,10,11,14,18,19,20,21,25,31,49,61,65,82,95,105,113,125,100500,100501] (by repeat' (first|exact z2n.nil|apply z2n.yes rfl|apply z2n.no)) (by repeat' (first|exact z13.nil|apply z13.old rfl|apply z13.gone|apply z13.new rfl)) ?_))|(apply z07;first|apply z08|apply z00|apply z04|apply z01|refine z0h (fun _=>?_) (fun _=>?_)| refine z0o ?_)
   all_goals try first|exact z0e func117 _ z2s ⟨_,rfl,⟨_,_,rfl⟩,rfl⟩|(exfalso;(try clear ih1);(try clear ih2);(try clear ih3);(try clear hm14);(try clear hm18);(try clear hm25);omega)|((fail_if_success (refine z0r ?_));exfalso;(try clear ih1);(try clear ih2);(try clear ih3);(try clear hm14);(try clear hm18);(try clear hm25);simp_all;done)
def y6b(p:PV):Prop:=∃i j e:Int,p=.tup [I .i64 i,I .i64 j,I .i64 e]
theorem zjt(c:z10)(hc:Small c)(hp:∀(i:Nat) (x:Node),c.nodes[i]? =some x→-1≤x.parent∧x.parent<i):NF prog 86 [c.d] y6b:=by
 refine z5u fun H=>?_
 refine z0g func86 (by kernel_rfl) rfl (by simp) ?_
 dsimp only[f86]
 repeat' first|(apply z05;first|refine z0n ?_| (apply z0a;first|refine z02 z1r rfl rfl ?_| refine z02 z16 rfl rfl ?_)|(apply z0c;refine z02 z0i rfl rfl ?_)|(apply z0j;first|(refine z8h (ziv _ hc.nattrs hc.attr) rfl (by decide) (fun p hp=>?_);obtain⟨_,_,rfl⟩:=hp)|(refine z8h (zu1 _ hc) rfl (by decide) (fun p hp=>?_);obtain⟨_,_,rfl⟩:=hp)|(refine z8h (zzy _ hc) rfl (by decide) (fun p hp=>?_);obtain⟨_,_,rfl⟩:=hp)|(refine z8h (zp8 _ hc) rfl (by decide) (fun p hp=>?_);obtain⟨_,_,rfl⟩:=hp)|(refine z8h (y02 _ _ hc hc.nnodes (fun x hx=>(hc.node x hx).1) hp) rfl (by decide) (fun p hp=>?_);obtain⟨_,_,rfl⟩:=hp)|(refine z8h (y0k _ hc) rfl (by decide) (fun p hp=>?_);obtain⟨_,_,rfl⟩:=hp))|(apply z18;refine z0b z1m ?_))|(apply z06;first|refine z0m ?_|(apply z3n;refine z3o [0,1,2,3,4,5,6,7,8,9,10,11,12,13,14,15,16,24,33,42,51,62,71,100500,100501] (by repeat' (first|exact z2n.nil|apply z2n.yes rfl|apply z2n.no)) (by repeat' (first|exact z13.nil|apply z13.old rfl|apply z13.gone|apply z13.new rfl)) ?_))|(apply z07;first|apply z08|apply z00|apply z04|refine z38 rfl (fun _=>?_) fun _=>?_)
 all_goals try first|exact z0e func86 _ (z4i rfl rfl rfl rfl) ⟨_,rfl,⟨_,_,_,rfl⟩,rfl⟩|(exfalso;(try clear hzz);omega)|((fail_if_success (refine z0r ?_));exfalso;(try clear hzz);simp_all;done)
theorem zlc(c:z10)(hc:Small c)(hp:∀(i:Nat) (x:Node),c.nodes[i]? =some x→-1≤x.parent∧x.parent<i):NF prog 53 [c.d] IsB:=by
 refine z5u fun H=>?_
 refine z0g func53 (by kernel_rfl) rfl (by simp) ?_
 dsimp only[f53]
 repeat' first|(apply z05;first|refine z0n ?_| (apply z0a;refine z02 z1r rfl rfl ?_)|(apply z0j;refine z8h (zjt c hc hp) rfl (by decide) (fun p hp=>?_);obtain⟨_,_,_,rfl⟩:=hp)|(apply z18;refine z0b z1m ?_))|(apply z06;first|refine z0m ?_|(apply z3n;refine z3o [0,1,2,5,100500,100501] (by repeat' (first|exact z2n.nil|apply z2n.yes rfl|apply z2n.no)) (by repeat' (first|exact z13.nil|apply z13.old rfl|apply z13.gone|apply z13.new rfl)) ?_))|(apply z07;first|apply z08|apply z00)
 all_goals try first|exact z0e func53 _ z0p ⟨_,rfl,⟨_,rfl⟩,rfl⟩|(exfalso;(try clear hzz);omega)|((fail_if_success (refine z0r ?_));exfalso;(try clear hzz);simp_all;done)
end Go.Proofs.YtonhfccmeammbaaGreatDoor
namespace Go.Proofs.YtonhfccmeammbaaGreatDoor
open Go.Ab
set_option maxHeartbeats 2000000
attribute [local irreducible] Run Ops Op1 z1z Val Tr z0q z1v
def z2u(l:List Int)(k:Nat):Blk:=.box [.d (ints l),I .i64 k]
theorem y5j(l:List Int)(hl:l.length≤9223372036854775807):∀H,Ab.Spec prog 9 [.d (ints l)] H (fun r H'=>r=.new (z2u (l.take 120) 0)∧H'=H):=by
 intro H
 refine z0g func9 (by kernel_rfl) rfl (by simp) ?_
 dsimp only[f9]
 by_cases h:l.length≤120
 ·repeat' (first|(apply z05;first|refine z0n ?_| (apply z0s;refine z02 (z0w rfl) rfl rfl ?_)|(apply z18;refine z0b z1m ?_)|(apply z1n;refine z2y ?_))|(apply z06;first|refine z0m ?_|apply z09)|(apply z07;first|apply z08|apply z00|apply z04|refine z0h (fun _=>?_) fun _=>?_))
  ·rename_i h2;omega
  ·refine z0e func9 _ (zl2 (qs:=[.d (ints l),I .i64 0]) rfl rfl rfl rfl) ⟨?_,rfl⟩
   rw[List.take_of_length_le h];rfl
 ·repeat' (first|(apply z05;first|refine z0n ?_| (apply zc0;refine z02 (z7v rfl (by omega) (by omega) fun _=>rfl) rfl rfl ?_)|(apply z0s;refine z02 (z0w rfl) rfl rfl ?_)|(apply z18;refine z0b z1m ?_)|(apply z1n;refine z2y ?_))|(apply z06;first|refine z0m ?_|apply z09)|(apply z07;first|apply z08|apply z00|apply z04|refine z0h (fun _=>?_) fun _=>?_))
  ·refine z0e func9 _ (zl2 (qs:=[.d (ints (l.take 120)),I .i64 0]) rfl rfl rfl rfl) ⟨?_,rfl⟩
   rfl
  ·rename_i h2;omega
def z4v(l:List Int)(k:Nat)(n:Int):Int:=match l[k]? with
 | some x=>ztt x n
 | none=>0
def z2b(l:List Int)(k:Nat):Nat:=if k<l.length then k+1 else k
theorem z8w(l:List Int)(k:Nat)(n:Int)(dd m:Nat)(hl:l.length≤120)(hk:k≤120)(hn:-9223372036854775808≤n∧n≤9223372036854775807) :
 z1v prog 26 [.ptr (dd,m) 0,I .i64 n] [((dd,m),z2u l k)] [((dd,m),z2u l (z2b l k))] (I .i64 (z4v l k n)):=by
 refine z2a fun H hH=>?_
 have hH0:=hH ((dd,m),z2u l k) (by simp)
 refine z0g func26 (by kernel_rfl) rfl (by simp) ?_
 dsimp only[f26]
 repeat' first|(apply z05;refine z0n ?_)|(apply z06;first|refine z0m ?_|apply z09)|(apply z07;first|apply z08|apply z00|apply z2o)|(apply z2m;first|refine z2w ?_| (apply z0u;refine z0x z0i rfl rfl ?_))
 repeat' first|(apply z05;first|refine z0n ?_| (apply z0c;refine z02 z0i rfl rfl ?_))|(apply z06;first|refine z0m ?_|apply z09)|(apply z07;first|apply z08|apply z00|apply z04|refine z0h (fun _=>?_) fun _=>?_)|(apply z2m;first|(apply z1e;refine z2c mix ?_)|refine z2w ?_| (apply z0v;refine z0x (z16 (b:=z2u l k)) rfl (bk1 hH0) ?_)|(apply z0u;refine z0x z0i rfl rfl ?_)|(apply z3v;refine z0x (z0w rfl) rfl rfl ?_))
 skip
 ·rename_i hlt
  refine z0e func26 _ z0p ⟨?_,?_⟩
  ·simp[z4v,zAv (l:=l) (i:=k) (by omega)]
  ·rw[z2b,zAy (by omega)];exact(z8o hH0).symm
 ·rename_i hlt
  obtain⟨x,hx⟩:∃x,l[k]? =some x:=⟨_,zA0 (by omega)⟩
  repeat' first|(apply z05;first|refine z0n ?_| (apply z0a;refine z02 (z16 (b:=z2u l k)) rfl (bk1 hH0) ?_)|(apply z0c;refine z02 z0i rfl rfl ?_)|(apply z0t;refine z02 (z0z z1h) rfl rfl ?_)|(apply z0f;refine z5k (raw:=z2u l k) (raw':=z2u l (k+1)) rfl hH0 rfl rfl rfl rfl rfl rfl ?_))|(apply z06;first|refine z0m ?_|apply z09)|(apply z07;first|apply z08|apply z2o)|(apply z2m;first|refine z2w ?_| (apply z0u;refine z0x z0i rfl rfl ?_))
  have hidx:(l.map fun x=>[z2g x])[(((k+1:Nat):Int)-1).toNat]? =some [z2g x]:=by
   rw[show(((k+1:Nat):Int)-1).toNat=k by omega];simp[hx]
  repeat' ((apply z2m;first|(apply z1e;refine z2c mix ?_)|refine z2w ?_| (apply z0v;first|refine z0x (z16 (b:=z2u l (k+1))) rfl (bk1 (z4s H (dd,m) _)) ?_| refine z0x z2f rfl rfl ?_)|(apply z0u;refine z0x z0i rfl rfl ?_)|(apply z1i;refine z0x (z1a rfl hidx) rfl rfl ?_)|(apply z3p;refine z0x (z2l z1h) rfl rfl ?_)|(apply z1s;refine z5b (y32 _ _ hn) ?_)))
  skip
  refine z0e func26 _ z0p ⟨?_,?_⟩
  ·rw[z4v,hx]
  ·rw[z2b,zAz (by omega)];rfl
theorem zrt{α:Type}{a b:List α}(hl:a.length=b.length)(h:∀j<a.length,a[j]? =b[j]?):a=b:=by
 apply List.ext_getElem?
 intro j
 by_cases hj:j<a.length
 ·exact h j hj
 ·rw[zAv (by omega),zAv (by omega)]
def way(c:z10)(a:Int):List Int:=a::up c a
theorem zu9{c:z10}(h:Wf c):∀(n:Nat) (a:Int),(up c a).length=n→∀x∈up c a,token c x=true:=by
 intro n
 induction n with
 | zero=>intro a ha x hx;simp at ha;simp[ha]at hx
 | succ n ih =>
  intro a ha x hx
  by_cases ht:token c a=true
  ·rw[zaf h ht]at ha hx
   split at ha
   ·simp at ha
   ·rename_i hne
    rw[zAy hne]at hx
    simp only[zAc]at hx
    rcases hx with rfl|hx
    ·exact zft h ((z2p c a).1 ht).1 hne
    ·exact ih _ (by simpa using ha) x hx
  ·rw[zyu (by simpa using ht)]at hx;simp at hx
theorem zq6{c:z10}(h:Wf c){a:Int}(ha:token c a=true):∀x∈way c a,token c x=true:=by
 intro x hx
 simp only[way,zAc]at hx
 rcases hx with rfl|hx
 ·exact ha
 ·exact zu9 h _ a rfl x hx
def zh0:List Str:=[⟨#[97]⟩,⟨#[98]⟩,⟨#[99]⟩,⟨#[65]⟩,⟨#[97,98]⟩,⟨#[]⟩]
def zwp:List Str:=[⟨#[88]⟩,⟨#[89]⟩]
def zi6:List Str:=[⟨#[124]⟩,⟨#[124,112,124]⟩,⟨#[124,112,124,113,124]⟩,⟨#[124,113,124]⟩]
def zpk:List Str:=[⟨#[115]⟩,⟨#[110,112]⟩,⟨#[116]⟩]
def atL(l:List Str)(i:Int):Str:=l.getD i.toNat ⟨#[]⟩
theorem z3z{l:List Str}{i:Int}(h0:0≤i)(h:i<l.length):l[i.toNat]? =some (atL l i):=by
 have h1:i.toNat<l.length:=by omega
 rw[atL,List.getD,zA0 h1];rfl
def z7n:List Attr:=[⟨⟨#[119,111,114,100]⟩,false⟩,⟨⟨#[116,97,103]⟩,false⟩,⟨⟨#[102,101,97,116]⟩,true⟩]
theorem zhz:z0q prog 46 [] (.d (.slice (z7n.map Attr.cs))):=by
 refine z0y fun H=>?_
 refine z0g func46 (by kernel_rfl) rfl (by simp) ?_
 dsimp only[f46]
 repeat' first|(apply z05;first|refine z0n ?_| (apply z1n;refine z2y ?_)|(apply z3c;refine z3b (ys:=z7n.map Attr.cs) rfl ?_))|(apply z06;first|refine z0m ?_|apply z09)|(apply z07;first|apply z08|apply z00)
 exact z0e func46 _ z0p ⟨rfl,rfl⟩
theorem zwm(i:Int):z0q prog 28 [I .i64 i] (S (atL zpk (ztt i 3))):=by
 refine z0y fun H=>?_
 refine z0g func28 (by kernel_rfl) rfl (by simp) ?_
 dsimp only[f28]
 have hm:=zf3 (x:=i) (n:=3) (by omega)
 have hx:=z3z (l:=zpk) hm.1 hm.2
 repeat' first|(apply z05;first|refine z0n ?_| (apply z0a;refine z02 z2f rfl rfl ?_)|(apply z0k;refine z02 (z3k rfl hm.1 (z6h hx) rfl) rfl rfl ?_)|(apply z0j;refine z29 (y32 _ 3 (by decide)) ?_)|(apply z3c;refine z3b (ys:=zpk.map fun x=>[z6o x]) rfl ?_))|(apply z06;first|refine z0m ?_|apply z09)|(apply z07;first|apply z08|apply z00)
 exact z0e func28 _ z0p ⟨rfl,rfl⟩
theorem y40{i:Int}(h0:0≤i)(h:i<zh0.length):z0q prog 47 [I .i64 i] (S (atL zh0 i)):=by
 refine z0y fun H=>?_
 refine z0g func47 (by kernel_rfl) rfl (by simp) ?_
 dsimp only[f47]
 have hx:=z3z (l:=zh0) h0 h
 repeat' first|(apply z05;first|refine z0n ?_| (apply z0a;refine z02 z2f rfl rfl ?_)|(apply z0k;refine z02 (z3k rfl h0 (z6h hx) rfl) rfl rfl ?_)|(apply z3c;refine z3b (ys:=zh0.map fun x=>[z6o x]) rfl ?_))|(apply z06;first|refine z0m ?_|apply z09)|(apply z07;first|apply z08|apply z00)
 exact z0e func47 _ z0p ⟨rfl,rfl⟩
theorem y5q{i:Int}(h0:0≤i)(h:i<zwp.length):z0q prog 48 [I .i64 i] (S (atL zwp i)):=by
 refine z0y fun H=>?_
 refine z0g func48 (by kernel_rfl) rfl (by simp) ?_
 dsimp only[f48]
 have hx:=z3z (l:=zwp) h0 h
 repeat' first|(apply z05;first|refine z0n ?_| (apply z0a;refine z02 z2f rfl rfl ?_)|(apply z0k;refine z02 (z3k rfl h0 (z6h hx) rfl) rfl rfl ?_)|(apply z3c;refine z3b (ys:=zwp.map fun x=>[z6o x]) rfl ?_))|(apply z06;first|refine z0m ?_|apply z09)|(apply z07;first|apply z08|apply z00)
 exact z0e func48 _ z0p ⟨rfl,rfl⟩
theorem y3i{i:Int}(h0:0≤i)(h:i<zi6.length):z0q prog 49 [I .i64 i] (S (atL zi6 i)):=by
 refine z0y fun H=>?_
 refine z0g func49 (by kernel_rfl) rfl (by simp) ?_
 dsimp only[f49]
 have hx:=z3z (l:=zi6) h0 h
 repeat' first|(apply z05;first|refine z0n ?_| (apply z0a;refine z02 z2f rfl rfl ?_)|(apply z0k;refine z02 (z3k rfl h0 (z6h hx) rfl) rfl rfl ?_)|(apply z3c;refine z3b (ys:=zi6.map fun x=>[z6o x]) rfl ?_))|(apply z06;first|refine z0m ?_|apply z09)|(apply z07;first|apply z08|apply z00)
 exact z0e func49 _ z0p ⟨rfl,rfl⟩
set_option maxHeartbeats 20000000
attribute [local irreducible] NF
theorem zfk(l:List Int)(k:Nat){n:Int}(h:0<n):0≤z4v l k n∧z4v l k n<n:=by
 unfold z4v
 split
 ·exact zf3 h
 ·omega
theorem tn0{l:List Int}{k:Nat}{n:Int}(h:0<n):0≤z4v l k n:=(zfk l k h).1
theorem tn1{l:List Int}{k:Nat}{n:Int}(h:0<n):z4v l k n<n:=(zfk l k h).2
theorem z5y{l:List Int}{k:Nat}(hl:l.length≤120)(hk:k≤120):z2b l k≤120:=by unfold z2b;split <;> omega
theorem zej(l:List Int)(k:Nat)(n:Int)(m:Nat)(hl:l.length≤120)(hk:k≤120)(hn:0<n∧n≤9223372036854775807) :
 Rel prog 26 [.ptr (0,m) 0,I .i64 n] [((0,m),z2u l k)] (fun x:Int × Nat=>0≤x.1∧x.1<n∧x.2≤120) (fun x=>I .i64 x.1) (fun x=>[((0,m),z2u l x.2)]) :=
 (z8w l k n 0 m hl hk (by omega)).rel (z4v l k n,z2b l k) ⟨tn0 hn.1,tn1 hn.1,z5y hl hk⟩ rfl
theorem zfd{P:Program}{g:FuncId}{ps:List PV}{bs:List (Nm × Blk)}{σ:Type}{Q:σ→Prop}{p:σ→PV}{hs:σ→List (Nm × Blk)}
 (h:∀H:Hf,(∀q∈bs,H q.1.1 q.1.2=some q.2)→Ab.Spec P g ps H fun r H'=>∃x,Q x∧r=.v (p x)∧H'=zf9 H (hs x)):Rel P g ps bs Q p hs:=h
def zvn:List Int→PV
 | []=>.d (.lit z1t)
 | l=>.d (ints l)
def zuy:List Str→PV
 | []=>.d (.lit z1t)
 | l=>.d (strs l)
def z6e(n:Nat)(hs:List Int)(rs:List Str):Prop:=(hs=[]∧rs=[])∨(hs.length=n∧rs.length=n∧∃ord:List Int,ord.length=n∧ord.Nodup∧(∀x∈ord,0≤x∧x<n) ∧
 ∀(p:Nat) (x:Int),ord[p]? =some x→∃h:Int,hs[x.toNat]? =some h∧(h=-1∨∃q:Nat,q<p∧ord[q]? =some h))
theorem zqs{ord:List Int}{i:Nat}{v:Int}(h2:ord.length=i)(h3:ord.Nodup)(h4:∀x∈ord,0≤x∧x<(i:Int)) :
 (ord.take v.toNat++(i:Int)::ord.drop v.toNat).length=i+1∧(ord.take v.toNat++(i:Int)::ord.drop v.toNat).Nodup∧∀x∈ord.take v.toNat++(i:Int)::ord.drop v.toNat,0≤x∧x<((i+1:Nat):Int):=by
 have hp:(ord.take v.toNat++(i:Int)::ord.drop v.toNat).Perm ((i:Int)::ord):=by
  have:=List.perm_middle (a:=(i:Int)) (l₁:=ord.take v.toNat) (l₂:=ord.drop v.toNat)
  rwa [List.take_append_drop]at this
 refine⟨by rw[hp.length_eq];simp[h2],(hp.nodup_iff).2 (List.nodup_cons.2 ⟨fun hm=>by have:=h4 _ hm;omega,h3⟩),fun x hx=>?_⟩
 rcases zAc.1 ((hp.mem_iff).1 hx)with rfl|hx
 ·omega
 ·have:=h4 x hx;omega
def oAt(l:List Int)(i:Int):Int:=l.getD i.toNat 0
theorem zg8{l:List Int}{i:Int}(h0:0≤i)(h:i<l.length):l[i.toNat]? =some (oAt l i):=by
 have h1:i.toNat<l.length:=by omega
 rw[oAt,List.getD,zA0 h1];rfl
def zxh:List Str:=[⟨#[111,98,106]⟩,⟨#[100,101,116]⟩,⟨#[]⟩]
theorem zr0:∀s∈zxh,s.size≤10:=by simp only[zxh,zAc,List.not_mem_nil,or_false];rintro s (rfl|rfl|rfl) <;> decide
theorem zge{l:List Str}{i:Int}(h0:0≤i)(h:i<l.length):atL l i∈l:=zA2 (z3z h0 h)
theorem zag{n p:Nat}{ord hq:List Int}{x v:Int}(hd:ord.Nodup)(hr:∀x∈ord,0≤x∧x<(n:Int))(hl:hq.length=n)(hx:ord[p]? =some x)
 (h:∀(j:Nat) (x:Int),j<p→ord[j]? =some x→∃h:Int,hq[x.toNat]? =some h∧(h=-1∨∃q:Nat,q<j∧ord[q]? =some h)) (hv:v=-1∨∃q:Nat,q<p∧ord[q]? =some v) :
 ∀(j:Nat) (y:Int),j<p+1→ord[j]? =some y→∃h:Int,(hq.set x.toNat v)[y.toNat]? =some h∧(h=-1∨∃q:Nat,q<j∧ord[q]? =some h):=by
 intro j y hj hy
 have hx0:=hr x (zA2 hx)
 have hy0:=hr y (zA2 hy)
 by_cases e:j=p
 ·subst e
  rw[hx]at hy;simp at hy;subst hy
  exact⟨v,zAp (by omega),hv⟩
 ·have hne:x≠y:=by
   rintro rfl
   have h1:=(zA1.1 hx)
   have h2:=(zA1.1 hy)
   obtain⟨l1,e1⟩:=h1
   obtain⟨l2,e2⟩:=h2
   exact e ((List.getElem_inj hd).1 (e2.trans e1.symm))
  rw[List.getElem?_set_ne (by omega)]
  exact h j y (by omega) hy
theorem zsn(H:Hf)(A B:Blk):upd (upd (upd (upd H (0,500) .gone) (0,8) .gone) (0,8) B) (0,500) A=zf9 H [((0,500),A),((0,8),B)]:=by
 simp only[zf9]
 funext d s
 simp only[upd]
 repeat' split
 all_goals first|rfl|simp_all|omega
theorem y0l(l:List Int)(k:Nat)(A X R N:D)(ts:List (List Str))(hl:l.length≤120)(hk:k≤120)(hn:0<ts.length∧ts.length≤1000) :
 Rel prog 52 [.ptr (0,500) 0,.ptr (0,8) 0] [((0,500),z2u l k),((0,8),.box [.d A,.d (.slice (ts.map fun t=>[strs t])),.d X,.d R,.d N,.d (.lit z1t),.d (.lit z1t)])]
  (fun x:List Int × List Str × Nat=>z6e ts.length x.1 x.2.1∧(∀s∈x.2.1,s.size≤10)∧x.2.2≤120) (fun _=>.tup [])
  (fun x=>[((0,500),z2u l x.2.2),((0,8),.box [.d A,.d (.slice (ts.map fun t=>[strs t])),.d X,.d R,.d N,zvn x.1,zuy x.2.1])]):=by
 refine zfd fun H hH=>?_
 have hH0:=hH ((0,500),z2u l k) (by simp)
 have hH1:=hH ((0,8),_) (List.mem_cons_of_mem _ (List.mem_cons_self))
 refine z0g func52 (by kernel_rfl) rfl (by simp) ?_
 dsimp only[f52]
 refine z57 500 0 500 hH0 rfl rfl ?_
 refine z57 501 0 8 (by simp only[upd];rw[zAy (by simp)];exact hH1) rfl rfl ?_
 refine z0d (tm':=[(0,.ptr (0,500) 0),(1,.ptr (0,501) 0),(100500,.al (0,500) (1,500)),(100501,.al (0,501) (1,8))]) (hp':=[(500,z2u l k),(501,.box [.d A,.d (.slice (ts.map fun t=>[strs t])),.d X,.d R,.d N,.d (.lit z1t),.d (.lit z1t)])]) ?_ rfl rfl
 repeat' first|(apply z05;first|refine z0n ?_| (apply z0a;refine z02 z16 rfl rfl ?_)|(apply z0c;refine z02 z0i rfl rfl ?_)|(apply z0s;refine z02 (z0w rfl) rfl rfl ?_))|(apply z06;first|refine z0m ?_|apply z09)|(apply z07;first|apply z08|apply z00|apply z01)
 refine y26 5 rfl ?_
 refine z0r ?_
 refine z0d (z1o (fun q:Nat × List Int × Nat=>⟨102,[(0,.ptr (0,500) 0),(1,.ptr (0,501) 0),(4,I .i64 ts.length),(5,.d (ints q.2.1)),(6,I .i64 q.1),(100500,.al (0,500) (1,500)),(100501,.al (0,501) (1,8))],[(500,z2u l q.2.2),(501,.box [.d A,.d (.slice (ts.map fun t=>[strs t])),.d X,.d R,.d N,.d (.lit z1t),.d (.lit z1t)])],upd (upd H (0,500) .gone) (0,8) .gone⟩)
  (fun q=>q.1≤ts.length∧q.2.1.length=q.1∧q.2.1.Nodup∧(∀x∈q.2.1,0≤x∧x<q.1)∧q.2.2≤120) (fun q=>ts.length-q.1) ?_ ⟨0,[],k⟩ ⟨zAf _,rfl,List.nodup_nil,by simp,hk⟩) rfl rfl
 intro⟨i,ord,kt⟩ ⟨h1,h2,h3,h4,h5⟩ ih
 simp only at h1 h2 h3 h4 h5 ih⊢
 by_cases hlt:i<ts.length
 ·repeat' (first|(apply z05;first|refine z0n ?_| (apply z0t;refine z02 (z0z z1h) rfl rfl ?_)|(apply z0j;refine z6f (zej l kt (i+1) 500 hl h5 (by omega)) rfl rfl (by decide) ?_;rintro⟨v,kt'⟩ ⟨hv1,hv2,hv3⟩;simp only at hv1 hv2 hv3⊢))|(apply z06;first|refine z0m ?_|apply z09)|(apply z07;first|apply z08|apply z00|apply z04|apply z01|apply z2o|apply z03|refine z0h (fun _=>?_) (fun _=>?_)| refine z0o ?_)|(apply z2m;first|(apply z1e;refine z2c mix ?_)|refine z2w ?_| (apply z7b;first|refine z0x (z7v rfl (by omega) (by omega) fun _=>rfl) rfl rfl ?_| refine z0x (zqc rfl (by omega) (by omega) fun _=>rfl) rfl rfl ?_)|(apply z3v;first|refine zco (by first|exact rfl|exact⟨_,rfl,rfl,rfl⟩) rfl rfl rfl rfl rfl (fun _=>rfl) rfl rfl (by decide) (by simp;omega) ?_|refine zao (by first|exact rfl|exact⟨_,rfl,rfl,rfl⟩) rfl rfl _ rfl rfl rfl rfl rfl rfl rfl (by decide) (by simp;omega) ?_)|(apply z6y;first|refine zwc (lp:=[]) (ys:=([]:List Int).map fun x=>[z2g x]) (by first|exact rfl|exact⟨_,rfl,rfl,rfl⟩) rfl rfl rfl rfl rfl rfl rfl rfl rfl (by decide) ?_|refine z7w rfl ?_)))
  ·obtain⟨f1,f2,f3⟩:=zqs (v:=v) h2 h3 h4
   refine z1f 38 rfl ?_
   have e:[]++ord.take v.toNat++[(i:Int)]++ord.drop v.toNat=ord.take v.toNat++(i:Int)::ord.drop v.toNat:=by simp
   rw[e]
   exact z0d (ih ⟨i+1,ord.take v.toNat++(i:Int)::ord.drop v.toNat,kt'⟩ ⟨by omega,f1,f2,f3,hv3⟩ (by simp only;omega)) rfl rfl
  ·omega
 ·repeat' (first|(apply z05;first|refine z0n ?_| (apply z0t;refine z02 (z0z z1h) rfl rfl ?_)|(apply z0s;refine z02 (z0w rfl) rfl rfl ?_))|(apply z06;first|refine z0m ?_|apply z09)|(apply z07;first|apply z08|apply z00|apply z04|apply z01|apply z2o|refine z0h (fun _=>?_) (fun _=>?_)| refine z0o ?_)|(apply z2m;first|(apply z1e;refine z2c mix ?_)|refine z2w ?_| (apply zk8;first|refine zmg (xs:=(List.replicate ts.length (⟨#[]⟩:Str)).map fun x=>[z6o x]) (by first|exact rfl|exact⟨_,rfl,rfl,rfl⟩) rfl rfl (by omega) (by omega) rfl rfl rfl (by decide) (by rw[List.map_replicate];rfl) ?_|refine zmg (xs:=(List.replicate ts.length (0:Int)).map fun x=>[z2g x]) (by first|exact rfl|exact⟨_,rfl,rfl,rfl⟩) rfl rfl (by omega) (by omega) rfl rfl rfl (by decide) (by rw[List.map_replicate];rfl) ?_)))
  ·omega
  obtain rfl:i=ts.length:=by omega
  refine z0r ?_
  refine z0d (z1o (fun q:Nat × List Int × List Str × Bool × Nat=>⟨102,[(0,.ptr (0,500) 0),(1,.ptr (0,501) 0),(5,.d (ints ord)),(8,.ref (0,40)),(9,.ref (0,42)),(10,B q.2.2.2.1),(43,.d (ints ord)),(44,I .i64 ord.length),(45,I .i64 q.1),(100500,.al (0,500) (1,500)),(100501,.al (0,501) (1,8))],
   [(40,.row 3 1 (q.2.1.map fun x=>[z2g x])),(42,.row 9 1 (q.2.2.1.map fun x=>[z6o x])),(500,z2u l q.2.2.2.2),(501,.box [.d A,.d (.slice (ts.map fun t=>[strs t])),.d X,.d R,.d N,.d (.lit z1t),.d (.lit z1t)])],upd (upd H (0,500) .gone) (0,8) .gone⟩)
   (fun q=>q.1≤ts.length∧q.2.1.length=ts.length∧q.2.2.1.length=ts.length∧q.2.2.2.2≤120∧(∀s∈q.2.2.1,s.size≤10)∧∀(j:Nat) (x:Int),j<q.1→ord[j]? =some x→∃h:Int,q.2.1[x.toNat]? =some h∧(h=-1∨∃q:Nat,q<j∧ord[q]? =some h))
   (fun q=>ts.length-q.1) ?_ ⟨0,List.replicate ts.length 0,List.replicate ts.length ⟨#[]⟩,false,kt⟩ ⟨zAf _,by simp,by simp,h5,by intro s hs;simp at hs;rw[hs.2];decide,by simp⟩) rfl rfl
  intro⟨p,hq,rq,sm,kz⟩ ⟨g1,g2,g3,g4,g5,g6⟩ ih2
  simp only at g1 g2 g3 g4 g5 g6 ih2⊢
  by_cases hlp:p<ord.length
  ·obtain⟨x,hx⟩:∃x,ord[p]? =some x:=⟨_,zA0 hlp⟩
   have hxr:=h4 x (zA2 hx)
   obtain⟨z,hz⟩:∃z,hq[x.toNat]? =some z:=⟨_,zA0 (by omega)⟩
   obtain⟨r0,hr0⟩:∃z,rq[x.toNat]? =some z:=⟨_,zA0 (by omega)⟩
   have hzs:∀v:Int,(hq.set x.toNat v)[x.toNat]? =some v:=fun v=>zAp (by omega)
   have hzt:∀u v:Int,((hq.set x.toNat u).set x.toNat v)[x.toNat]? =some v:=fun u v=>zAp (by simp;omega)
   have hrs:∀v:Str,(rq.set x.toNat v)[x.toNat]? =some v:=fun v=>zAp (by omega)
   repeat' first|(apply z05;first|refine z0n ?_| (apply z0a;first|refine z02 (z23 (hzs _) rfl rfl rfl) rfl rfl ?_| refine z02 (z23 (hzt _ _) rfl rfl rfl) rfl rfl ?_| refine z02 (z23 hr0 rfl rfl rfl) rfl rfl ?_| refine z02 (z23 (hrs _) rfl rfl rfl) rfl rfl ?_| refine z02 z2f rfl rfl ?_)|(apply z0c;refine z02 z0i rfl rfl ?_)|(apply z0k;first|refine z02 (z1a rfl (idx hx)) rfl rfl ?_| refine z02 (z4r rfl (by simp;omega)) rfl rfl ?_)|(apply z0t;refine z02 (z0z z1h) rfl rfl ?_)|(apply z0j;refine z6f (zej l kz 4 500 hl g4 (by decide)) rfl rfl (by decide) ?_;rintro⟨v,kt'⟩ ⟨hv1,hv2,hv3⟩;simp only at hv1 hv2 hv3⊢)|(apply z0f;first|refine z22 (-1) (by rfl) (by rfl) (by rfl) (by rfl) hz (by rfl) (by rfl) (by rfl) (by rfl) ?_|refine z25 ?_))|(apply z06;first|refine z0m ?_|apply z09|refine z1g ?_| refine z1p (fun _=>?_) (fun _=>?_)| refine z39 rfl rfl (fun _=>?_) (fun _=>?_)|refine zci rfl rfl (fun _=>?_) fun _=>?_)|(apply z07;first|apply z08|apply z00|refine z15 ?_| apply z04|apply z01|apply z2o|apply z03|refine z0h (fun _=>?_) (fun _=>?_)| refine z2q rfl (fun _=>?_) (fun _=>?_)|refine z0o ?_)|(apply z2m;first|(apply z1e;refine z2c mix ?_)|refine z2w ?_| (apply z0v;refine z0x z2f rfl rfl ?_)|(apply z1i;first|refine z0x (z4r rfl (by simp;omega)) rfl rfl ?_| refine z0x (z3k rfl (tn0 (by omega)) (z6h (zg8 (tn0 (by omega)) (Int.lt_trans (tn1 (by omega)) (by omega)))) rfl) rfl rfl ?_| refine z0x (z3k rfl (tn0 (by omega)) (z6h (z3z (l:=zxh) (tn0 (by decide)) (Int.lt_of_lt_of_le (tn1 (by decide)) (by decide)))) rfl) rfl rfl ?_)|(apply z1s;first|refine znc (z8w l kt' (p:Int) 0 500 hl hv3 (by omega)) (by first|exact rfl|exact⟨_,rfl,rfl,rfl⟩) rfl rfl (by decide) ?_|refine znc (z8w l (z2b l kt') 3 0 500 hl (z5y hl hv3) (by decide)) (by first|exact rfl|exact⟨_,rfl,rfl,rfl⟩) rfl rfl (by decide) ?_)|(apply z2r;first|refine zep (oAt ord (z4v l kt' (p:Int))) (by first|exact rfl|exact⟨_,rfl,rfl,rfl⟩) (by rfl) (by rfl) (by rfl) (by rfl) (hzs _) (by rfl) (by rfl) (by rfl) (by rfl) ?_|refine zep (atL zxh (z4v l (z2b l kt') 3)) (by first|exact rfl|exact⟨_,rfl,rfl,rfl⟩) (by rfl) (by rfl) (by rfl) (by rfl) hr0 (by rfl) (by rfl) (by rfl) (by rfl) ?_)|(apply z6y;refine z7w (ys:=zxh.map fun x=>[z6o x]) rfl ?_))
   all_goals try omega
   all_goals try (exact z0d (ih2 ⟨p+1,hq.set x.toNat (-1),rq,_,kt'⟩ ⟨by omega,by simpa using g2,g3,hv3,g5,zag h3 h4 g2 hx g6 (.inl rfl)⟩ (by simp only;omega)) rfl rfl)
   all_goals try (exact z0d (ih2 ⟨p+1,hq.set x.toNat (-1),rq,_,kz⟩ ⟨by omega,by simpa using g2,g3,g4,g5,zag h3 h4 g2 hx g6 (.inl rfl)⟩ (by simp only;omega)) rfl rfl)
   all_goals
    have hb0:=tn0 (l:=l) (k:=kt') (n:=(p:Int)) (by omega)
    have hb1:=tn1 (l:=l) (k:=kt') (n:=(p:Int)) (by omega)
    have hfs:=zag (v:=oAt ord (z4v l kt' (p:Int))) h3 h4 g2 hx g6 (.inr ⟨(z4v l kt' (p:Int)).toNat,by omega,zg8 hb0 (by omega)⟩)
    rw[←List.set_set (a:=(-1:Int))]at hfs
    refine z0d (ih2 ⟨p+1,(hq.set x.toNat (-1)).set x.toNat (oAt ord (z4v l kt' (p:Int))),rq.set x.toNat (atL zxh (z4v l (z2b l kt') 3)),_,z2b l (z2b l kt')⟩ ⟨by omega,by simpa using g2,by simpa using g3,z5y hl (z5y hl hv3),?_,hfs⟩ (by simp only;omega)) rfl rfl
    intro s hs
    rcases List.mem_or_eq_of_mem_set hs with hs|rfl
    ·exact g5 s hs
    ·exact zr0 _ (zge (l:=zxh) (i:=z4v l (z2b l kt') 3) (tn0 (by decide)) (Int.lt_of_lt_of_le (tn1 (by decide)) (by decide)))
  ·refine z1f 40 rfl ?_
   refine z1f 42 rfl ?_
   repeat' first|(apply z05;first|refine z0n ?_| (apply z0c;refine z02 z0i rfl rfl ?_)|(apply z0f;refine z25 ?_))|(apply z06;first|refine z0m ?_|apply z09)|(apply z07;first|apply z08|apply z00|apply z04|apply z01|refine z0h (fun _=>?_) (fun _=>?_)| refine z2q rfl (fun _=>?_) (fun _=>?_)|refine z0o ?_)
   ·omega
   ·refine z3s 501 0 8 (raw:=.box [.d A,.d (.slice (ts.map fun t=>[strs t])),.d X,.d R,.d N,.d (ints hq),.d (strs rq)]) rfl rfl rfl rfl rfl ?_
    refine z3s 500 0 500 (raw:=z2u l kz) rfl rfl rfl rfl rfl ?_
    refine zcc func52 _ (z4j rfl) ⟨(hq,rq,kz),⟨.inr ⟨g2,g3,ord,h2,h3,h4,fun j x hx=>g6 j x (by have:=(zA1.1 hx).1;omega) hx⟩,g5,g4⟩,rfl,?_⟩
    have e1:zvn hq=.d (ints hq):=by cases hq with|nil=>simp at g2;omega|cons a b=>rfl
    have e2:zuy rq=.d (strs rq):=by cases rq with|nil=>simp at g3;omega|cons a b=>rfl
    simp only[e1,e2]
    exact zsn H _ _
   ·refine z3s 501 0 8 (raw:=.box [.d A,.d (.slice (ts.map fun t=>[strs t])),.d X,.d R,.d N,.d (.lit z1t),.d (.lit z1t)]) rfl rfl rfl rfl rfl ?_
    refine z3s 500 0 500 (raw:=z2u l kz) rfl rfl rfl rfl rfl ?_
    exact zcc func52 _ (z4j rfl) ⟨([],[],kz),⟨.inl ⟨rfl,rfl⟩,by simp,g4⟩,rfl,zsn H _ _⟩
end Go.Proofs.YtonhfccmeammbaaGreatDoor
