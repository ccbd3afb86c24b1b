/- A part of the proof: T24 to T27a. -/
import Derived.Test.YtonhfccmeammbaaGreatDoorUTA
set_option linter.all false
namespace Go.Proofs.YtonhfccmeammbaaGreatDoor
open Go.Ab
set_option maxHeartbeats 20000000
attribute [local irreducible] Run Ops Op1 z1x Val Tr z0m z1r NF Rel
theorem zpe (c:z0v) (i:Int) (hc:Small c):NF Tryz.prog 143 [c.d,I .i64 i] (fun p=>p=I .i64 (z4j c.texts 0 i)):=by
 refine z4y fun H=>?_
 refine z0g Tryz.func143 (by kernel_rfl) rfl (by simp) ?_
 dsimp only[Tryz.f143]
 have:=hc.ntexts
 repeat' (first|(apply z04;(first|refine z0l ?_| (apply z0a;(refine z02 z18 rfl rfl ?_))|(apply z0d;(refine z02 z1a rfl rfl ?_))|(apply z0x;(refine z02 (z0y rfl) rfl rfl ?_))|(apply z1c;(refine z0b z1q ?_))))|(apply z05;(first|refine z0k ?_|apply z09))|(apply z06;(first|apply z07|apply z00|apply z01)))
 all_goals try (first|exact z0c Tryz.func143 _ z1j ⟨_,rfl,(by rw[← hk1.2];first|(rw[z3f hx1,z4j,zAy (by omega)];done)|(rw[List.drop_eq_nil_of_le (by omega)];rfl)),rfl⟩|(exfalso;omega)|(exfalso;simp_all;done))
 all_goals
  refine z0t ?_
  refine z0e (z1v (fun k1:Nat=>⟨27,[(1,PV.lift 1 (I IntKind.i64 i)),(8,PV.d (D.slice (List.map Text.cs c.texts))),(9,I IntKind.i64 (↑c.texts.length:Int)),(10,I .i64 (k1:Nat))],[],H⟩) (fun k1:Nat=>k1≤c.texts.length∧z4j (c.texts.drop k1) k1 i=z4j c.texts 0 i) (fun k1:Nat=>c.texts.length-k1) ?_ 0 ⟨zAf _,rfl⟩) rfl rfl
  intro k1 hk1 ih1
  by_cases hlt1:k1<c.texts.length
  case pos =>
   obtain⟨x1,hx1⟩:∃ x,c.texts[k1]? =some x:=⟨_,zA0 (by first|omega|(simp;omega))⟩
   repeat' (first|(apply z04;(first|refine z0l ?_| (apply z0a;(first|refine z02 z18 rfl rfl ?_| refine z02 z2j rfl rfl ?_))|(apply z0d;(refine z02 z1a rfl rfl ?_))|(apply z0n;(refine z02 (z1o rfl (idx hx1)) rfl rfl ?_))|(apply z0z;(refine z02 (z14 z1p) rfl rfl ?_))|(apply z0f;(refine z2d ?_))|(apply z0i;(refine z0b z1e ?_))))|(apply z05;(first|refine z0k ?_|apply z09|refine z1m ?_| refine z1t (fun _=>?_) (fun _=>?_)))|(apply z06;(first|apply z07|apply z00|refine z1f ?_| apply z08|apply z01|apply z03|refine z0h (fun _=>?_) (fun _=>?_)| refine z0o ?_)))
   all_goals try (first|exact z0c Tryz.func143 _ z1j ⟨_,rfl,(by rw[← hk1.2];first|(rw[z3f hx1,z4j,zAy (by omega)];done)|(rw[List.drop_eq_nil_of_le (by omega)];rfl)),rfl⟩|exact z0e (ih1 (k1+1) ⟨by omega,by rw[← hk1.2,z3f hx1,z4j,zAx (by omega)]⟩ (by omega)) rfl rfl|(exfalso;omega)|(exfalso;simp_all;done))
  case neg =>
   repeat' (first|(apply z04;(refine z0l ?_))|(apply z05;(first|refine z0k ?_|apply z09))|(apply z06;(first|apply z07|apply z00|apply z08|apply z01|refine z0h (fun _=>?_) (fun _=>?_)| refine z0o ?_)))
   all_goals try (first|exact z0c Tryz.func143 _ z1j ⟨_,rfl,(by rw[← hk1.2];first|(rw[z3f hx1,z4j,zAy (by omega)];done)|(rw[List.drop_eq_nil_of_le (by omega)];rfl)),rfl⟩|(exfalso;omega)|(exfalso;simp_all;done))
theorem ziw (a b:Region) (ha:SmP a.keys) (hb:SmP b.keys):NF Tryz.prog 85 [.d (.agg a.cs),.d (.agg b.cs)] (fun p=>p=I .i64 (zcu a b)):=by
 refine z4y fun H=>?_
 refine z0g Tryz.func85 (by kernel_rfl) rfl (by simp) ?_
 dsimp only[Tryz.f85]
 have hla:=ha.1
 have hlb:=hb.1
 repeat' (first|(apply z04;(first|refine z0l ?_| (apply z0a;(refine z02 z18 rfl rfl ?_))|(apply z0d;(refine z02 z1a rfl rfl ?_))|(apply z0j;(first|refine z2s (zle _) ?_| refine z2s (zfl _ _) ?_))|(apply z1c;(refine z0b z1q ?_))))|(apply z05;(first|refine z0k ?_|apply z09))|(apply z06;(first|apply z07|apply z00|apply z08|apply z01|apply z03|refine z3o rfl (fun _=>?_) (fun _=>?_))))
 all_goals try (first|exact z0c Tryz.func85 _ z1j ⟨_,rfl,(by first|(simp_all [zcu];done)|(rw[hq,← hk1.2.2,z3f hx1,z3f hy1];(first|rw[z3p,zAy (by assumption)]|rw[z3p,zAx (by simp only[ne_eq,Decidable.not_not];assumption),zAy (by assumption)]|rw[z3p,zAx (by simp only[ne_eq,Decidable.not_not];assumption),zAx (by simp only[ne_eq,Decidable.not_not];assumption)]);done)|(rw[hq,← hk1.2.2,z4w hlt1,zAy (by assumption)];done)|(rw[hq,← hk1.2.2,z4w hlt1,zAx (by simp only[ne_eq,Decidable.not_not];assumption)];done)),rfl⟩|(exfalso;omega)|(exfalso;simp_all;done))
 all_goals
  have hq:zcu a b=z3p a.keys b.keys:=by simp_all [zcu]
  refine z0t ?_
  refine z0e (z1v (fun k1:Nat=>⟨122,[(2,PV.ptr (0,2) 0),(3,PV.ptr (0,3) 0),(5,I .i64 (k1:Nat))],[(2,Blk.box (List.map PV.d a.cs)),(3,Blk.box (List.map PV.d b.cs))],H⟩) (fun k1:Nat=>k1≤a.keys.length∧k1≤b.keys.length∧z3p (a.keys.drop k1) (b.keys.drop k1)=z3p a.keys b.keys) (fun k1:Nat=>a.keys.length-k1) ?_ 0 ⟨zAf _,zAf _,rfl⟩) rfl rfl
  intro k1 hk1 ih1
  by_cases hlt1:k1<a.keys.length∧k1<b.keys.length
  case pos =>
   obtain⟨x1,hx1⟩:∃ x,a.keys[k1]? =some x:=⟨_,zA0 (by omega)⟩
   obtain⟨y1,hy1⟩:∃ x,b.keys[k1]? =some x:=⟨_,zA0 (by omega)⟩
   repeat' (first|(apply z04;(first|refine z0l ?_| (apply z0a;(refine z02 z18 rfl rfl ?_))|(apply z0d;(refine z02 z1a rfl rfl ?_))|(apply z0z;(refine z02 (z14 z1p) rfl rfl ?_))|(apply z0x;(refine z02 (z0y rfl) rfl rfl ?_))|(apply z0j;(refine z2s (zle _) ?_))))|(apply z05;(first|refine z0k ?_|apply z09|refine z1m ?_| refine z1t (fun _=>?_) (fun _=>?_)))|(apply z06;(first|apply z07|apply z00|refine z1f ?_| apply z08|apply z01|apply z2z|apply z03|refine z0h (fun _=>?_) (fun _=>?_)| refine z3o rfl (fun _=>?_) (fun _=>?_)|refine z0o ?_))|(apply z2v;(first|(apply z1l;refine z2n mix ?_)|refine z3h ?_| (apply z0u;(first|refine z0w z18 rfl rfl ?_| refine z0w z2p rfl rfl ?_))|(apply z0q;(first|refine z0w z1a rfl rfl ?_| refine z0w (z65 rfl rfl) rfl rfl ?_))|(apply z1n;(first|refine z0w (z1o rfl (idx hx1)) rfl rfl ?_| refine z0w (z1o rfl (idx hy1)) rfl rfl ?_))|(apply z22;(refine z5f (zfl _ _) ?_)))))
   all_goals try (first|exact z0c Tryz.func85 _ z1j ⟨_,rfl,(by first|(simp_all [zcu];done)|(rw[hq,← hk1.2.2,z3f hx1,z3f hy1];(first|rw[z3p,zAy (by assumption)]|rw[z3p,zAx (by simp only[ne_eq,Decidable.not_not];assumption),zAy (by assumption)]|rw[z3p,zAx (by simp only[ne_eq,Decidable.not_not];assumption),zAx (by simp only[ne_eq,Decidable.not_not];assumption)]);done)|(rw[hq,← hk1.2.2,z4w hlt1,zAy (by assumption)];done)|(rw[hq,← hk1.2.2,z4w hlt1,zAx (by simp only[ne_eq,Decidable.not_not];assumption)];done)),rfl⟩|exact z0e (ih1 (k1+1) ⟨by omega,by omega,by rw[← hk1.2.2,z3f hx1,z3f hy1];(first|rw[z3p,zAy (by assumption)]|rw[z3p,zAx (by simp only[ne_eq,Decidable.not_not];assumption),zAy (by assumption)]|rw[z3p,zAx (by simp only[ne_eq,Decidable.not_not];assumption),zAx (by simp only[ne_eq,Decidable.not_not];assumption)])⟩ (by omega)) rfl rfl|(exfalso;omega)|(exfalso;simp_all;done))
  case neg =>
   repeat' (first|(apply z04;(first|refine z0l ?_| (apply z0a;(refine z02 z18 rfl rfl ?_))|(apply z0d;(refine z02 z1a rfl rfl ?_))|(apply z0x;(refine z02 (z0y rfl) rfl rfl ?_))|(apply z0j;(refine z2s (zle _) ?_))))|(apply z05;(first|refine z0k ?_|apply z09|refine z1m ?_| refine z1t (fun _=>?_) (fun _=>?_)))|(apply z06;(first|apply z07|apply z00|refine z1f ?_| apply z08|apply z01|apply z2z|refine z0h (fun _=>?_) (fun _=>?_)| refine z3o rfl (fun _=>?_) (fun _=>?_)|refine z0o ?_))|(apply z2v;(first|refine z3h ?_| (apply z0u;(refine z0w z18 rfl rfl ?_))|(apply z0q;(refine z0w z1a rfl rfl ?_)))))
   all_goals try (first|exact z0c Tryz.func85 _ z1j ⟨_,rfl,(by first|(simp_all [zcu];done)|(rw[hq,← hk1.2.2,z3f hx1,z3f hy1];(first|rw[z3p,zAy (by assumption)]|rw[z3p,zAx (by simp only[ne_eq,Decidable.not_not];assumption),zAy (by assumption)]|rw[z3p,zAx (by simp only[ne_eq,Decidable.not_not];assumption),zAx (by simp only[ne_eq,Decidable.not_not];assumption)]);done)|(rw[hq,← hk1.2.2,z4w hlt1,zAy (by assumption)];done)|(rw[hq,← hk1.2.2,z4w hlt1,zAx (by simp only[ne_eq,Decidable.not_not];assumption)];done)),rfl⟩|(exfalso;omega)|(exfalso;simp_all;done))
theorem zg7 (a:List Attr) (hn:a.length≤1000000) (ha:∀ x∈a,x.name.size≤1000000):NF Tryz.prog 113 [.d (.slice (a.map Attr.cs))] zu4:=by
 refine z4y fun H=>?_
 refine z0g Tryz.func113 (by kernel_rfl) rfl (by simp) ?_
 dsimp only[Tryz.f113]
 repeat' (first|(apply z04;(first|refine z0l ?_| (apply z0x;(refine z02 (z0y rfl) rfl rfl ?_))))|(apply z05;(first|refine z0k ?_|apply z09))|(apply z06;(first|apply z07|apply z00|apply z08|apply z01|refine z0h (fun _=>?_) (fun _=>?_))))
 all_goals try (first|exact z0c Tryz.func113 _ z2m ⟨_,rfl,⟨_,_,rfl⟩,rfl⟩|(exfalso;omega)|(exfalso;simp_all;done))
 all_goals
  refine z0t ?_
  refine z0e (z1v (fun k1:Nat=>⟨42,[(0,PV.lift 1 (PV.d (D.slice (List.map Attr.cs a)))),(14,PV.lift 1 (PV.d (D.slice (List.map Attr.cs a)))),(15,I IntKind.i64 (↑a.length:Int)),(16,I .i64 (k1:Nat))],[],H⟩) (fun k1:Nat=>k1≤a.length) (fun k1:Nat=>a.length-k1) ?_ 0 (zAf _)) rfl rfl
  intro k1 hk1 ih1
  by_cases hlt1:k1<a.length
  case pos =>
   obtain⟨x1,hx1⟩:∃ x,a[k1]? =some x:=⟨_,zA0 (by omega)⟩
   have hp1:=ha x1 (zA2 hx1)
   repeat' (first|(apply z04;(first|refine z0l ?_| (apply z0a;(first|refine z02 z18 rfl rfl ?_| refine z02 z2j rfl rfl ?_))|(apply z0d;(refine z02 z1a rfl rfl ?_))|(apply z0n;(refine z02 (z1o rfl (idx hx1)) rfl rfl ?_))|(apply za8;(refine z02 (z6m rfl (by omega) (by omega) (fun _=>rfl)) rfl rfl ?_))|(apply z0x;(refine z02 (z0y rfl) rfl rfl ?_))|(apply z0j;((refine z7a (z4z _ (by omega)) rfl (by decide) (fun p hp=>?_);obtain⟨_,rfl⟩:=hp)))|(apply z0f;(refine z2d ?_))|(apply z0i;(refine z0b z1e ?_))))|(apply z05;(first|refine z0k ?_|apply z09))|(apply z06;(first|apply z07|apply z00|apply z08|apply z01|refine z0h (fun _=>?_) (fun _=>?_)| refine z2i rfl (fun _=>?_) (fun _=>?_)|refine z0o ?_)))
   all_goals try (first|exact z0c Tryz.func113 _ z2m ⟨_,rfl,⟨_,_,rfl⟩,rfl⟩|exact z0e (ih1 (k1+1) (by omega) (by omega)) rfl rfl|(exfalso;omega)|(exfalso;simp_all;done))
   all_goals
    refine z0t ?_
    refine z0e (z1v (fun k2:Nat=>⟨42,[(0,PV.lift 1 (PV.d (D.slice (List.map Attr.cs a)))),(4,I IntKind.i64 (↑k1:Int)),(5,PV.ptr (0,5) 0),(14,PV.lift 1 (PV.d (D.slice (List.map Attr.cs a)))),(15,I IntKind.i64 (↑a.length:Int)),(16,I IntKind.i64 (↑k1:Int)),(28,PV.d (D.slice (List.map Attr.cs (List.take (↑k1:Int).toNat a)))),(29,I IntKind.i64 (↑(List.take (↑k1:Int).toNat a).length:Int)),(30,I .i64 (k2:Nat))],[(5,Blk.box (z11 (z4u ({ size:=2,bytes:=24,kind:=TK.struct,fields:=[(0,1),(1,1)],zero:=[Value.string { data:=#[] },Value.bool false] }:TI).zero) 0 (List.map PV.d x1.cs)))],H⟩) (fun k2:Nat=>k2≤(List.take (↑k1:Int).toNat a).length) (fun k2:Nat=>(List.take (↑k1:Int).toNat a).length-k2) ?_ 0 (zAf _)) rfl rfl
    intro k2 hk2 ih2
    by_cases hlt2:k2<(List.take (↑k1:Int).toNat a).length
    case pos =>
     have hl2:(List.take (↑k1:Int).toNat a).length≤_:=List.length_take_le _ _
     obtain⟨x2,hx2⟩:∃ x,(List.take (↑k1:Int).toNat a)[k2]? =some x:=⟨_,zA0 (by first|omega|(simp;omega))⟩
     repeat' (first|(apply z04;(first|refine z0l ?_| (apply z0a;(first|refine z02 z18 rfl rfl ?_| refine z02 z2j rfl rfl ?_))|(apply z0d;(refine z02 z1a rfl rfl ?_))|(apply z0n;(refine z02 (z1o rfl (idx hx2)) rfl rfl ?_))|(apply z0z;(refine z02 (z14 z1p) rfl rfl ?_))|(apply z0f;(refine z2d ?_))|(apply z0i;(refine z0b z1e ?_))))|(apply z05;(first|refine z0k ?_|apply z09))|(apply z06;(first|apply z07|apply z00|apply z08|apply z01|apply z03|refine z0h (fun _=>?_) (fun _=>?_)| refine z0o ?_)))
     all_goals try (first|exact z0c Tryz.func113 _ z2m ⟨_,rfl,⟨_,_,rfl⟩,rfl⟩|exact z0e (ih2 (k2+1) (by omega) (by omega)) rfl rfl|exact z0e (ih1 (k1+1) (by omega) (by omega)) rfl rfl|(exfalso;omega)|(exfalso;simp_all;done))
    case neg =>
     repeat' (first|(apply z04;(first|refine z0l ?_| (apply z0z;(refine z02 (z14 z1p) rfl rfl ?_))))|(apply z05;(first|refine z0k ?_|apply z09))|(apply z06;(first|apply z07|apply z00|apply z08|apply z01|apply z03|refine z0h (fun _=>?_) (fun _=>?_)| refine z0o ?_)))
     all_goals try (first|exact z0c Tryz.func113 _ z2m ⟨_,rfl,⟨_,_,rfl⟩,rfl⟩|exact z0e (ih1 (k1+1) (by omega) (by omega)) rfl rfl|(exfalso;omega)|(exfalso;simp_all;done))
  case neg =>
   repeat' (first|(apply z04;(refine z0l ?_))|(apply z05;(first|refine z0k ?_|apply z09))|(apply z06;(first|apply z07|apply z00|apply z08|apply z01|refine z0h (fun _=>?_) (fun _=>?_)| refine z0o ?_)))
   all_goals try (first|exact z0c Tryz.func113 _ z2m ⟨_,rfl,⟨_,_,rfl⟩,rfl⟩|(exfalso;omega)|(exfalso;simp_all;done))
theorem zoh (c:z0v) (hc:Small c):NF Tryz.prog 114 [c.d] zu4:=by
 refine z4y fun H=>?_
 refine z0g Tryz.func114 (by kernel_rfl) rfl (by simp) ?_
 dsimp only[Tryz.f114]
 have h1:=hc.toks
 have h2:=hc.nattrs
 repeat' (first|(apply z04;(first|refine z0l ?_| (apply z0a;(refine z02 z18 rfl rfl ?_))|(apply z0d;(refine z02 z1a rfl rfl ?_))|(apply z0x;(refine z02 (z0y rfl) rfl rfl ?_))|(apply z1c;(refine z0b z1q ?_))))|(apply z05;(first|refine z0k ?_|apply z09))|(apply z06;(first|apply z07|apply z00|apply z08|apply z01|refine z0h (fun _=>?_) (fun _=>?_))))
 all_goals try (first|exact z0c Tryz.func114 _ z2m ⟨_,rfl,⟨_,_,rfl⟩,rfl⟩|(exfalso;omega)|(exfalso;simp_all;done))
 all_goals
  refine z0t ?_
  refine z0e (z1v (fun k1:Nat=>⟨48,[(1,PV.ptr (0,1) 0),(14,PV.d (D.slice (List.map (fun t=>[strs t]) c.tokens))),(15,I IntKind.i64 (↑c.tokens.length:Int)),(16,I .i64 (k1:Nat))],[(1,Blk.box (List.map PV.d c.cs))],H⟩) (fun k1:Nat=>k1≤c.tokens.length) (fun k1:Nat=>c.tokens.length-k1) ?_ 0 (zAf _)) rfl rfl
  intro k1 hk1 ih1
  by_cases hlt1:k1<c.tokens.length
  case pos =>
   obtain⟨x1,hx1⟩:∃ x,c.tokens[k1]? =some x:=⟨_,zA0 (by omega)⟩
   have hp1:=hc.tok x1 (zA2 hx1)
   repeat' (first|(apply z04;(first|refine z0l ?_| (apply z0a;(first|refine z02 z18 rfl rfl ?_| refine z02 z2p rfl rfl ?_))|(apply z0d;(refine z02 z1a rfl rfl ?_))|(apply z0n;(refine z02 (z1o rfl (idx hx1)) rfl rfl ?_))|(apply z0x;(refine z02 (z0y rfl) rfl rfl ?_))))|(apply z05;(first|refine z0k ?_|apply z09))|(apply z06;(first|apply z07|apply z00|apply z08|apply z01|refine z0h (fun _=>?_) (fun _=>?_)| refine z3o rfl (fun _=>?_) (fun _=>?_)|refine z0o ?_)))
   all_goals try (first|exact z0c Tryz.func114 _ z2m ⟨_,rfl,⟨_,_,rfl⟩,rfl⟩|exact z0e (ih1 (k1+1) (by omega) (by omega)) rfl rfl|(exfalso;omega)|(exfalso;simp_all;done))
   all_goals
    refine z0t ?_
    refine z0e (z1v (fun k2:Nat=>⟨48,[(1,PV.ptr (0,1) 0),(4,I IntKind.i64 (↑k1:Int)),(5,PV.d (strs x1)),(14,PV.d (D.slice (List.map (fun t=>[strs t]) c.tokens))),(15,I IntKind.i64 (↑c.tokens.length:Int)),(16,I IntKind.i64 (↑k1:Int)),(28,PV.d (strs x1)),(29,I IntKind.i64 (↑x1.length:Int)),(30,I .i64 (k2:Nat))],[(1,Blk.box (List.map PV.d c.cs))],H⟩) (fun k2:Nat=>k2≤x1.length) (fun k2:Nat=>x1.length-k2) ?_ 0 (zAf _)) rfl rfl
    intro k2 hk2 ih2
    by_cases hlt2:k2<x1.length
    case pos =>
     obtain⟨x2,hx2⟩:∃ x,x1[k2]? =some x:=⟨_,zA0 (by omega)⟩
     have hv2:=hp1.2 x2 (zA2 hx2)
     obtain⟨y2,hy2⟩:∃ x,c.attrs[k2]? =some x:=⟨_,zA0 (by omega)⟩
     repeat' (first|(apply z04;(first|refine z0l ?_| (apply z0a;(first|refine z02 z18 rfl rfl ?_| refine z02 z2p rfl rfl ?_| refine z02 z2j rfl rfl ?_))|(apply z0d;(refine z02 z1a rfl rfl ?_))|(apply z0n;(first|refine z02 (z1o rfl (idx hx2)) rfl rfl ?_| refine z02 (z1o rfl (idx hy2)) rfl rfl ?_))|(apply z0z;(refine z02 (z14 z1p) rfl rfl ?_))|(apply z0j;((refine z7a (zrg _ _ hv2) rfl (by decide) (fun p hp=>?_);obtain⟨_,rfl⟩:=hp)))))|(apply z05;(first|refine z0k ?_|apply z09))|(apply z06;(first|apply z07|apply z00|apply z08|apply z01|apply z03|refine z0h (fun _=>?_) (fun _=>?_)| refine z3o rfl (fun _=>?_) (fun _=>?_)|refine z0o ?_)))
     all_goals try (first|exact z0c Tryz.func114 _ z2m ⟨_,rfl,⟨_,_,rfl⟩,rfl⟩|exact z0e (ih2 (k2+1) (by omega) (by omega)) rfl rfl|exact z0e (ih1 (k1+1) (by omega) (by omega)) rfl rfl|(exfalso;omega)|(exfalso;simp_all;done))
    case neg =>
     repeat' (first|(apply z04;(first|refine z0l ?_| (apply z0z;(refine z02 (z14 z1p) rfl rfl ?_))))|(apply z05;(first|refine z0k ?_|apply z09))|(apply z06;(first|apply z07|apply z00|apply z08|apply z01|apply z03|refine z0h (fun _=>?_) (fun _=>?_)| refine z0o ?_)))
     all_goals try (first|exact z0c Tryz.func114 _ z2m ⟨_,rfl,⟨_,_,rfl⟩,rfl⟩|exact z0e (ih1 (k1+1) (by omega) (by omega)) rfl rfl|(exfalso;omega)|(exfalso;simp_all;done))
  case neg =>
   repeat' (first|(apply z04;(refine z0l ?_))|(apply z05;(first|refine z0k ?_|apply z09))|(apply z06;(first|apply z07|apply z00|apply z08|apply z01|refine z0h (fun _=>?_) (fun _=>?_)| refine z0o ?_)))
   all_goals try (first|exact z0c Tryz.func114 _ z2m ⟨_,rfl,⟨_,_,rfl⟩,rfl⟩|(exfalso;omega)|(exfalso;simp_all;done))
theorem zs9 (c:z0v) (hc:Small c):NF Tryz.prog 115 [c.d] zu4:=by
 refine z4y fun H=>?_
 refine z0g Tryz.func115 (by kernel_rfl) rfl (by simp) ?_
 dsimp only[Tryz.f115]
 have h1:=hc.toks
 have h2:=hc.ntexts
 repeat' (first|(apply z04;(first|refine z0l ?_| (apply z0a;(refine z02 z18 rfl rfl ?_))|(apply z0d;(refine z02 z1a rfl rfl ?_))|(apply z0z;(refine z02 (zvt rfl) rfl rfl ?_))|(apply z0x;(refine z02 (z0y rfl) rfl rfl ?_))|(apply z1c;(refine z0b z1q ?_))))|(apply z05;(first|refine z0k ?_|apply z09))|(apply z06;(first|apply z07|apply z00|apply z08|apply z01|refine z0h (fun _=>?_) (fun _=>?_)| refine z3o rfl (fun _=>?_) (fun _=>?_))))
 all_goals try (first|exact z0c Tryz.func115 _ z2m ⟨_,rfl,⟨_,_,rfl⟩,rfl⟩|(exfalso;omega)|(exfalso;simp_all;done))
 all_goals
  refine z0t ?_
  refine z0e (z1v (fun q:Nat × Int=>⟨96,[(1,PV.ptr (0,1) 0),(4,I IntKind.i64 (↑c.tokens.length:Int)),(5,I .i64 q.2),(26,PV.d (D.slice (List.map Text.cs c.texts))),(27,I IntKind.i64 (↑c.texts.length:Int)),(28,I .i64 (q.1:Nat))],[(1,Blk.box (List.map PV.d c.cs))],H⟩) (fun q:Nat × Int=>q.1≤c.texts.length) (fun q:Nat × Int=>c.texts.length-q.1) ?_ ⟨0,_⟩ (zAf _)) rfl rfl
  intro ⟨k1,m1_5⟩ hk1 ih1
  simp only at hk1 ih1 ⊢
  by_cases hlt1:k1<c.texts.length
  case pos =>
   obtain⟨x1,hx1⟩:∃ x,c.texts[k1]? =some x:=⟨_,zA0 (by omega)⟩
   have hp1:=hc.text x1 (zA2 hx1)
   have hn1:=hp1.1
   repeat' (first|(apply z04;(first|refine z0l ?_| (apply z0a;(first|refine z02 z18 rfl rfl ?_| refine z02 z2j rfl rfl ?_))|(apply z0d;(refine z02 z1a rfl rfl ?_))|(apply z0n;(refine z02 (z1o rfl (idx hx1)) rfl rfl ?_))|(apply za8;(refine z02 (z6m rfl (by omega) (by omega) (fun _=>rfl)) rfl rfl ?_))|(apply z0x;(refine z02 (z0y rfl) rfl rfl ?_))|(apply z0j;((refine z7a (z4z _ (by omega)) rfl (by decide) (fun p hp=>?_);obtain⟨_,rfl⟩:=hp)))|(apply z0f;(refine z2d ?_))|(apply z0i;(refine z0b z1e ?_))))|(apply z05;(first|refine z0k ?_|apply z09))|(apply z06;(first|apply z07|apply z00|apply z08|apply z01|refine z0h (fun _=>?_) (fun _=>?_)| refine z2i rfl (fun _=>?_) (fun _=>?_)|refine z0o ?_)))
   all_goals try (first|exact z0c Tryz.func115 _ z2m ⟨_,rfl,⟨_,_,rfl⟩,rfl⟩|exact z0e (ih1 ⟨k1+1,_⟩ (by omega) (by omega)) rfl rfl|(exfalso;omega)|(exfalso;simp_all;done))
   all_goals
    refine z0t ?_
    refine z0e (z1v (fun k2:Nat=>⟨96,[(1,PV.ptr (0,1) 0),(4,I IntKind.i64 (↑c.tokens.length:Int)),(5,I IntKind.i64 m1_5),(6,I IntKind.i64 (↑k1:Int)),(7,PV.ptr (0,7) 0),(26,PV.d (D.slice (List.map Text.cs c.texts))),(27,I IntKind.i64 (↑c.texts.length:Int)),(28,I IntKind.i64 (↑k1:Int)),(41,PV.d (D.slice (List.map Text.cs (List.take (↑k1:Int).toNat c.texts)))),(42,I IntKind.i64 (↑(List.take (↑k1:Int).toNat c.texts).length:Int)),(43,I .i64 (k2:Nat))],[(1,Blk.box (List.map PV.d c.cs)),(7,Blk.box (z11 (z4u ({ size:=4,bytes:=56,kind:=TK.struct,fields:=[(0,1),(1,1),(2,1),(3,1)],zero:=[Value.string { data:=#[] },Value.int IntKind.i64 0,Value.int IntKind.i64 0,z1k] }:TI).zero) 0 (List.map PV.d x1.cs)))],H⟩) (fun k2:Nat=>k2≤(List.take (↑k1:Int).toNat c.texts).length) (fun k2:Nat=>(List.take (↑k1:Int).toNat c.texts).length-k2) ?_ 0 (zAf _)) rfl rfl
    intro k2 hk2 ih2
    by_cases hlt2:k2<(List.take (↑k1:Int).toNat c.texts).length
    case pos =>
     have hl2:(List.take (↑k1:Int).toNat c.texts).length≤_:=List.length_take_le _ _
     obtain⟨x2,hx2⟩:∃ x,(List.take (↑k1:Int).toNat c.texts)[k2]? =some x:=⟨_,zA0 (by first|omega|(simp;omega))⟩
     repeat' (first|(apply z04;(first|refine z0l ?_| (apply z0a;(first|refine z02 z18 rfl rfl ?_| refine z02 z2j rfl rfl ?_))|(apply z0d;(refine z02 z1a rfl rfl ?_))|(apply z0n;(refine z02 (z1o rfl (idx hx2)) rfl rfl ?_))|(apply z0z;(first|refine z02 (z14 z1p) rfl rfl ?_| refine z02 (z2q z1p) rfl rfl ?_))|(apply z0x;(refine z02 (z0y rfl) rfl rfl ?_))|(apply z0j;((refine z7a (zht _ hp1.2.1) rfl (by decide) (fun p hp=>?_);obtain⟨_,rfl⟩:=hp)))|(apply z0f;(refine z2d ?_))|(apply z0i;(refine z0b z1e ?_))))|(apply z05;(first|refine z0k ?_|apply z09|refine z1m ?_| refine z9j rfl rfl (by decide) ?_|refine z1t (fun _=>?_) (fun _=>?_)| refine z3v rfl rfl (fun _=>?_) (fun _=>?_)))|(apply z06;(first|apply z07|apply z00|refine z1b rfl ?_|refine z1f ?_| apply z08|apply z01|apply z03|refine z0h (fun _=>?_) (fun _=>?_)| refine z3o rfl (fun _=>?_) (fun _=>?_)|refine z0o ?_)))
     all_goals try (first|exact z0c Tryz.func115 _ z2m ⟨_,rfl,⟨_,_,rfl⟩,rfl⟩|exact z0e (ih2 (k2+1) (by omega) (by omega)) rfl rfl|exact z0e (ih1 ⟨k1+1,_⟩ (by omega) (by omega)) rfl rfl|(exfalso;omega)|(exfalso;simp_all;done))
    case neg =>
     repeat' (first|(apply z04;(first|refine z0l ?_| (apply z0a;(refine z02 z18 rfl rfl ?_))|(apply z0d;(refine z02 z1a rfl rfl ?_))|(apply z0z;(first|refine z02 (z14 z1p) rfl rfl ?_| refine z02 (z2q z1p) rfl rfl ?_))|(apply z0x;(refine z02 (z0y rfl) rfl rfl ?_))|(apply z0j;((refine z7a (zht _ hp1.2.1) rfl (by decide) (fun p hp=>?_);obtain⟨_,rfl⟩:=hp)))))|(apply z05;(first|refine z0k ?_|apply z09|refine z1m ?_| refine z9j rfl rfl (by decide) ?_|refine z1t (fun _=>?_) (fun _=>?_)| refine z3v rfl rfl (fun _=>?_) (fun _=>?_)))|(apply z06;(first|apply z07|apply z00|refine z1b rfl ?_|refine z1f ?_| apply z08|apply z01|apply z03|refine z0h (fun _=>?_) (fun _=>?_)| refine z3o rfl (fun _=>?_) (fun _=>?_)|refine z0o ?_)))
     all_goals try (first|exact z0c Tryz.func115 _ z2m ⟨_,rfl,⟨_,_,rfl⟩,rfl⟩|exact z0e (ih1 ⟨k1+1,_⟩ (by omega) (by omega)) rfl rfl|(exfalso;omega)|(exfalso;simp_all;done))
  case neg =>
   repeat' (first|(apply z04;(refine z0l ?_))|(apply z05;(first|refine z0k ?_|apply z09))|(apply z06;(first|apply z07|apply z00|apply z08|apply z01|refine z0h (fun _=>?_) (fun _=>?_)| refine z0o ?_)))
   all_goals try (first|exact z0c Tryz.func115 _ z2m ⟨_,rfl,⟨_,_,rfl⟩,rfl⟩|(exfalso;omega)|(exfalso;simp_all;done))
theorem zvi {x y:Operand} {a b:Attr} (w:World) (own:Nat→Prop) (us vs:List Value) (hu:DR w own (.agg a.cs) (.agg us.toArray)) (hv:DR w own (.agg b.cs) (.agg vs.toArray)) :
 (do eqGuard .neq 79 x y (.agg us.toArray) (.agg vs.toArray);binOp .neq 79 (.agg us.toArray) (.agg vs.toArray):Sem Value).run Tryz.prog w=.ok (.bool (!(decide (a.name=b.name)&&decide (a.set=b.set)))) w:=by
 have e1:=DR.lits (xs:=[.string a.name,.bool a.set]) hu
 have e2:=DR.lits (xs:=[.string b.name,.bool b.set]) hv
 subst e1 e2
 have hf:(Tryz.prog.fieldsOf 79).toList.map (fun f=>(f.name == "_",f.type,f.offset))=[(false,9,0),(false,4,1)]:=by kernel_rfl
 have hu:Tryz.prog.underlying 79=some (.struct (Tryz.prog.fieldsOf 79)):=by kernel_rfl
 have hs:Tryz.prog.stoodInHeld 79=false:=by kernel_rfl
 have hg:Tryz.prog.eqGuardType Tryz.prog.depth 79=false:=by kernel_rfl
 have hstr:Tryz.prog.underlying 9=some .string:=T9.str rfl
 have hbool:Tryz.prog.underlying 4=some .bool:=T4.bool rfl
 have ha9:∀ w,(isAgg 9).run Tryz.prog w=.ok false w:=fun w=>T9.isAgg w
 have ha4:∀ w,(isAgg 4).run Tryz.prog w=.ok false w:=fun w=>T4.isAgg w
 rw[Sem.run_bind,run_eqGuard_agg _ _ _ _ _ _ _ hg,Result.andThen_ok,run_neq_struct,run_equalIn_struct w 9999 79 _ _ hu hs]
 generalize (Tryz.prog.fieldsOf 79).toList=fs at hf
 obtain⟨f1,f2,rfl⟩:∃ f1 f2,fs=[f1,f2]:=by
  have hl:=congrArg List.length hf
  simp only[zA4,zAk,List.length_nil] at hl
  match fs,hl with
  | [a,b],_=>exact⟨a,b,rfl⟩
 · simp only[List.map_cons,List.map_nil,List.cons.injEq,Prod.mk.injEq,beq_eq_false_iff_ne,ne_eq,and_true] at hf
   obtain⟨⟨n1,t1,o1⟩,n2,t2,o2⟩:=hf
   simp only[Op.eqFields,n1,n2,ne_eq,not_false_eq_true,if_true,t1,t2,o1,o2,part,Sem.run_bind,ha9,Result.andThen_ok,Bool.false_eq_true,if_false]
   by_cases h1:a.name=b.name
   · by_cases h2:a.set=b.set <;> simp[run_equalIn_string _ _ _ _ _ hstr,run_equalIn_bool' _ _ _ _ _ hbool,h1,h2]
   · have h3:(a.name.toList == b.name.toList)=false:=by rw[toList_eq];simp[h1]
     simp[run_equalIn_string _ _ _ _ _ hstr,h3,h1]
def z96 (c:z0v):List Int:=if 0<c.heads.length then c.heads else List.replicate c.tokens.length (-1)
def zf4 (c:z0v):List Str:=if 0<c.heads.length then c.rels else List.replicate c.tokens.length ⟨#[]⟩
theorem zta {α:Type} {a b:α} {n k:Nat} (h:k<n):(List.replicate k a++List.replicate (n-k) b)[((k:Nat):Int).toNat]? =some b:=by
 rw[zA9,zAg (by simp),zAq,Nat.sub_self,List.getElem?_replicate,zAy (by omega)]
theorem zt1 {α:Type} {a b:α} {n k:Nat} (h:k<n):(List.replicate k a++List.replicate (n-k) b).set ((k:Nat):Int).toNat a=List.replicate (k+1) a++List.replicate (n-(k+1)) b:=by
 obtain⟨m,rfl⟩:∃ m,n=k+(m+1):=⟨n-k-1,by omega⟩
 rw[zA9,show k+(m+1)-k=m+1 by omega,show k+(m+1)-(k+1)=m by omega,List.set_append_right _ _ (by simp),zAq,Nat.sub_self,List.replicate_succ,List.set_cons_zero,List.replicate_succ' (n:=k)]
 simp
theorem za1 {α β:Type} (g:α→β):∀ (l:List α) (n:Nat) (p:List α),z11 (l.map g) n (p.map g)=(z11 l n p).map g
 | l,n,[]=>by cases l <;> cases n <;> rfl
 | [],n,p::ps=>by cases n <;> rfl
 | x::l,0,p::ps=>by simp[z11,za1 g l 0 ps]
 | x::l,n+1,p::ps=>by
  have:=za1 g l n (p::ps)
  simp only[List.map_cons] at this
  simp[z11,this]
theorem zpu {α:Type} (m:List α) (z x:α) (k:Nat) (hk:k≤m.length):(z11 (m++[z]) (k+1) (((m++[z]).drop k).take (m.length-k))).set k x=m.take k++x::m.drop k:=by
 apply List.ext_getElem?
 intro j
 have hl:(((m++[z]).drop k).take (m.length-k)).length=m.length-k:=by simp;omega
 by_cases hj:j=k
 · subst hj
   rw[zAo (by rw[z1g];simp;omega),zAg (by simp;omega)]
   simp[zAm,Nat.min_eq_left hk]
 · rw[List.getElem?_set_ne (Ne.symm hj),z38 _ _ _ (by rw[hl];simp;omega),hl]
   by_cases h1:j<k
   · have hR:(m.take k++x::m.drop k)[j]? =m[j]?:=by rw[zAb (by simp;omega),List.getElem?_take,zAy h1]
     rw[zAx (by omega),hR,zAb (by omega)]
   · have hR:(m.take k++x::m.drop k)[j]? =m[j-1]?:=by
      rw[zAg (by simp;omega)]
      have e:j-(m.take k).length=(j-k-1)+1:=by simp;omega
      rw[e,List.getElem?_cons_succ,List.getElem?_drop]
      congr 1;omega
     rw[hR]
     by_cases h2:j<k+1+(m.length-k)
     · rw[zAy ⟨by omega,h2⟩,List.getElem?_take,zAy (by omega),List.getElem?_drop,zAb (by omega)]
       congr 1;omega
     · rw[zAx (by omega),zAu (by simp;omega),zAu (by omega)]
def zwf (l:List Region) (p:PV):Prop:=∃ m:List Region,(m.length=l.length∧∀ x∈m,x∈l)∧p=.d (.slice (m.map Region.cs))
set_option maxHeartbeats 4000000
theorem ztb (c:z0v) (hc:Small c):NF Tryz.prog 118 [c.d] zu4:=by
 refine z4y fun H=>?_
 refine z0g Tryz.func118 (by kernel_rfl) rfl (by simp) ?_
 dsimp only[Tryz.f118]
 have h1:=hc.toks
 have h2:=hc.nheads
 have h3:=hc.nrels
 repeat' (first|(apply z04;(first|refine z0l ?_| (apply z0a;(refine z02 z18 rfl rfl ?_))|(apply z0d;(refine z02 z1a rfl rfl ?_))|(apply z0x;(refine z02 (z0y rfl) rfl rfl ?_))|(apply z0j;((refine z7a (zwg _ _ (by omega) (by omega)) rfl (by decide) (fun p hp=>?_);obtain⟨_,rfl⟩:=hp)))|(apply z1c;(refine z0b z1q ?_))))|(apply z05;(first|refine z0k ?_|apply z09|refine z1m ?_| refine z9j rfl rfl (by decide) ?_|refine z1t (fun _=>?_) (fun _=>?_)| refine z3v rfl rfl (fun _=>?_) (fun _=>?_)))|(apply z06;(first|apply z07|apply z00|refine z1b rfl ?_|refine z1f ?_| apply z08|apply z01|refine z3o rfl (fun _=>?_) (fun _=>?_)|refine z2i rfl (fun _=>?_) (fun _=>?_))))
 all_goals try (first|exact z0c Tryz.func118 _ z2m ⟨_,rfl,⟨_,_,rfl⟩,rfl⟩|(exfalso;omega)|(exfalso;simp_all;done))
 all_goals
  refine z0t ?_
  refine z0e (z1v (fun k1:Nat=>⟨86,[(1,PV.ptr (0,1) 0),(4,I IntKind.i64 (↑c.heads.length:Int)),(36,PV.d (ints c.heads)),(37,I IntKind.i64 (↑c.heads.length:Int)),(38,I .i64 (k1:Nat))],[(1,Blk.box (List.map PV.d c.cs))],H⟩) (fun k1:Nat=>k1≤c.heads.length) (fun k1:Nat=>c.heads.length-k1) ?_ 0 (zAf _)) rfl rfl
  intro k1 hk1 ih1
  by_cases hlt1:k1<c.heads.length
  case pos =>
   obtain⟨x1,hx1⟩:∃ x,c.heads[k1]? =some x:=⟨_,zA0 (by omega)⟩
   obtain⟨y1,hy1⟩:∃ x,c.rels[k1]? =some x:=⟨_,zA0 (by omega)⟩
   have hv1:=hc.rel y1 (zA2 hy1)
   repeat' (first|(apply z04;(first|refine z0l ?_| (apply z0a;(first|refine z02 z18 rfl rfl ?_| refine z02 z2p rfl rfl ?_))|(apply z0d;(refine z02 z1a rfl rfl ?_))|(apply z0n;(first|refine z02 (z1o rfl (idx hx1)) rfl rfl ?_| refine z02 (z1o rfl (idx hy1)) rfl rfl ?_))|(apply z0z;(refine z02 (z14 z1p) rfl rfl ?_))|(apply z0j;(first|(refine z7a (z4z _ hv1) rfl (by decide) (fun p hp=>?_);obtain⟨_,rfl⟩:=hp)|(refine z7a (zo6 _ _ (by omega) (by omega) (by omega)) rfl (by decide) (fun p hp=>?_);obtain⟨_,rfl⟩:=hp)))))|(apply z05;(first|refine z0k ?_|apply z09|refine z1m ?_| refine z3v rfl rfl (fun _=>?_) (fun _=>?_)))|(apply z06;(first|apply z07|apply z00|refine z1b rfl ?_|refine z1f ?_| apply z08|apply z01|apply z2z|apply z03|refine z0h (fun _=>?_) (fun _=>?_)| refine z3o rfl (fun _=>?_) (fun _=>?_)|refine z2i rfl (fun _=>?_) (fun _=>?_)|refine z0o ?_))|(apply z2v;(first|(apply z1l;refine z2n mix ?_)|refine z6r rfl rfl (by decide) ?_|refine zce rfl rfl (by decide) ?_|refine z3h ?_| (apply z0u;(refine z0w z2c rfl rfl ?_))|(apply z22;(refine z5f (z8x (zpe _ _ hc)) ?_))|(refine z4b rfl rfl (fun hg=>?_) (fun hg=>?_) <;> simp only[hg] <;> (try simp only[zA3,zA5,zA6,zA8] at hg)))))
   all_goals try (first|exact z0c Tryz.func118 _ z2m ⟨_,rfl,⟨_,_,rfl⟩,rfl⟩|exact z0e (ih1 (k1+1) (by omega) (by omega)) rfl rfl|(exfalso;omega)|(exfalso;simp_all;done))
  case neg =>
   repeat' (first|(apply z04;(refine z0l ?_))|(apply z05;(first|refine z0k ?_|apply z09))|(apply z06;(first|apply z07|apply z00|apply z08|apply z01|refine z0h (fun _=>?_) (fun _=>?_)| refine z0o ?_)))
   all_goals try (first|exact z0c Tryz.func118 _ z2m ⟨_,rfl,⟨_,_,rfl⟩,rfl⟩|(exfalso;omega)|(exfalso;simp_all;done))
theorem zh0 (a b:List Attr) (ha:a.length≤1000000) (hb:b.length≤1000000):NF Tryz.prog 54 [.d (.slice (a.map Attr.cs)),.d (.slice (b.map Attr.cs))] IsB:=by
 refine z4y fun H=>?_
 refine z0g Tryz.func54 (by kernel_rfl) rfl (by simp) ?_
 dsimp only[Tryz.f54]
 repeat' (first|(apply z04;(first|refine z0l ?_| (apply z0x;(refine z02 (z0y rfl) rfl rfl ?_))))|(apply z05;(first|refine z0k ?_|(apply z34;refine z36 [0,1,4,5,10,12,13,14,24,100500,100501] (by repeat' (first|exact z2b.nil|apply z2b.yes rfl|apply z2b.no)) (by repeat' (first|exact z0p.nil|apply z0p.old rfl|apply z0p.gone|apply z0p.new rfl)) ?_)))|(apply z06;(first|apply z07|apply z00|apply z08|apply z01|refine z3o rfl (fun _=>?_) (fun _=>?_))))
 all_goals try (first|exact z0c Tryz.func54 _ z1j ⟨_,rfl,⟨_,rfl⟩,rfl⟩|(exfalso;omega)|(exfalso;simp_all;done))
 all_goals
  refine z0t ?_
  refine z0e (z1v (fun k1:Nat=>⟨26,[(0,PV.lift 1 (PV.d (D.slice (List.map Attr.cs a)))),(1,PV.lift 1 (PV.d (D.slice (List.map Attr.cs b)))),(12,I IntKind.i64 (↑a.length:Int)),(13,I .i64 (k1:Nat))],[],H⟩) (fun k1:Nat=>k1≤a.length) (fun k1:Nat=>a.length-k1) ?_ 0 (zAf _)) rfl rfl
  intro k1 hk1 ih1
  by_cases hlt1:k1<a.length
  case pos =>
   obtain⟨x1,hx1⟩:∃ x,a[k1]? =some x:=⟨_,zA0 (by omega)⟩
   obtain⟨y1,hy1⟩:∃ x,b[k1]? =some x:=⟨_,zA0 (by omega)⟩
   repeat' (first|(apply z04;(first|refine z0l ?_| (apply z0z;(refine z02 (z14 z1p) rfl rfl ?_))))|(apply z05;(first|refine z0k ?_|(apply z34;refine z36 [0,1,4,5,10,12,13,14,24,100500,100501] (by repeat' (first|exact z2b.nil|apply z2b.yes rfl|apply z2b.no)) (by repeat' (first|exact z0p.nil|apply z0p.old rfl|apply z0p.gone|apply z0p.new rfl)) ?_)))|(apply z06;(first|apply z07|apply z00|apply z08|apply z01|apply z2z|apply z03|refine z0h (fun _=>?_) (fun _=>?_)| refine z2i rfl (fun _=>?_) (fun _=>?_)|refine z0o ?_))|(apply z2v;(first|(apply z1l;refine z7i [0,1,4,5,10,12,13,14,24,100500,100501] mix (by kernel_rfl) (by repeat' (first|exact z2b.nil|apply z2b.yes rfl|apply z2b.no)) (by repeat' (first|exact z0p.nil|apply z0p.old rfl|apply z0p.gone|apply z0p.new rfl)) ?_)|refine z3h ?_| (apply z0u;(refine z0w z2j rfl rfl ?_))|(apply z1n;(first|refine z0w (z1o rfl (idx hx1)) rfl rfl ?_| refine z0w (z1o rfl (idx hy1)) rfl rfl ?_))|(apply z3y;(refine z0w (zye (op:=.neq) (tx:=79) zvi) rfl rfl ?_)))))
   all_goals try (first|exact z0c Tryz.func54 _ z1j ⟨_,rfl,⟨_,rfl⟩,rfl⟩|exact z0e (ih1 (k1+1) (by omega) (by omega)) rfl rfl|(exfalso;omega)|(exfalso;simp_all;done))
  case neg =>
   repeat' (first|(apply z04;(refine z0l ?_))|(apply z05;(first|refine z0k ?_|(apply z34;refine z36 [0,1,4,5,10,12,13,14,24,100500,100501] (by repeat' (first|exact z2b.nil|apply z2b.yes rfl|apply z2b.no)) (by repeat' (first|exact z0p.nil|apply z0p.old rfl|apply z0p.gone|apply z0p.new rfl)) ?_)))|(apply z06;(first|apply z07|apply z00|apply z08|apply z01|apply z2z|refine z0h (fun _=>?_) (fun _=>?_)| refine z0o ?_))|(apply z2v;(refine z3h ?_)))
   all_goals try (first|exact z0c Tryz.func54 _ z1j ⟨_,rfl,⟨_,rfl⟩,rfl⟩|(exfalso;omega)|(exfalso;simp_all;done))
theorem z86 (c:z0v) (hc:Small c):NF Tryz.prog 56 [c.d] (fun p=>p=.tup [.d (ints (z96 c)),.d (strs (zf4 c))]):=by
 refine z4y fun H=>?_
 refine z0g Tryz.func56 (by kernel_rfl) rfl (by simp) ?_
 dsimp only[Tryz.f56]
 have h1:=hc.toks
 have hrl:(List.replicate c.tokens.length (0:Int)).length=c.tokens.length:=by simp
 repeat' (first|(apply z04;(first|refine z0l ?_| (apply z0a;(refine z02 z18 rfl rfl ?_))|(apply z0d;(refine z02 z1a rfl rfl ?_))|(apply z0x;(first|refine z02 (z0y rfl) rfl rfl ?_| refine z02 (z3m rfl) rfl rfl ?_))|(apply z1c;(refine z0b z1q ?_))|(apply zqq;(refine zq5 (xs:=(List.replicate c.tokens.length (0:Int)).map fun x=>[z3c x]) rfl rfl (by omega) (by omega) rfl rfl rfl (by decide) (by simp) ?_))))|(apply z05;(first|refine z0k ?_|apply z09))|(apply z06;(first|apply z07|apply z00|apply z08|apply z01|apply z2z|refine z0h (fun _=>?_) (fun _=>?_)))|(apply z2v;(first|(apply z1l;refine z2n mix ?_)|refine z3h ?_| (apply z0u;(refine z0w z18 rfl rfl ?_))|(apply z0q;(refine z0w z1a rfl rfl ?_)))))
 all_goals try (first|(first|(refine z0c Tryz.func56 _ z2m ⟨_,rfl,?_,rfl⟩;have e0:0<c.heads.length:=(by omega);simp only[z96,zf4,zAy e0])|(obtain rfl:k1=c.tokens.length:=(by omega);refine z19 17 rfl ?_;refine z19 31 rfl ?_;refine z0c Tryz.func56 _ z2m ⟨_,rfl,?_,rfl⟩;have e0:¬ 0<c.heads.length:=(by omega);simp[z96,zf4,zAx e0,ints,strs]))|(exfalso;omega)|(exfalso;simp_all;done))
 all_goals
  refine z0t ?_
  refine z0e (z1v (fun k1:Nat=>⟨32,[(1,PV.ptr (0,1) 0),(4,PV.ref (0,17)),(19,I IntKind.i64 (↑(List.replicate c.tokens.length 0).length:Int)),(20,I .i64 (k1:Nat))],[(1,Blk.box (List.map PV.d c.cs)),(17,.row 3 1 ((List.replicate k1 (-1)++List.replicate (c.tokens.length-k1) (0:Int)).map fun x=>[z3c x]))],H⟩) (fun k1:Nat=>k1≤c.tokens.length) (fun k1:Nat=>c.tokens.length-k1) ?_ 0 (zAf _)) rfl rfl
  intro k1 hk1 ih1
  by_cases hlt1:k1<c.tokens.length
  case pos =>
   have hz1:=zta (a:=(-1:Int)) (b:=0) hlt1
   repeat' (first|(apply z04;(first|refine z0l ?_| (apply z0n;(refine z02 (z25 rfl (by omega) (by simp;omega) rfl) rfl rfl ?_))|(apply z0z;(refine z02 (z14 z1p) rfl rfl ?_))|(apply z0f;(refine z27 (-1) (by rfl) (by rfl) (by rfl) (by rfl) hz1 (by rfl) (by rfl) (by rfl) (zt1 hlt1) ?_))))|(apply z05;(first|refine z0k ?_|apply z09))|(apply z06;(first|apply z07|apply z00|apply z08|apply z01|apply z2z|apply z03|refine z0h (fun _=>?_) (fun _=>?_)| refine z0o ?_))|(apply z2v;(first|(apply z1l;refine z2n mix ?_)|refine z3h ?_| (apply z0u;(refine z0w z18 rfl rfl ?_))|(apply z0q;(refine z0w z1a rfl rfl ?_))|(apply z3n;(refine z0w (z0y rfl) rfl rfl ?_))|(apply zh7;(refine zij (xs:=(List.replicate c.tokens.length (⟨#[]⟩:Str)).map fun x=>[z5p x]) (by first|exact rfl|exact⟨_,rfl,rfl,rfl⟩) rfl rfl (by omega) (by omega) rfl rfl rfl (by decide) (by simp) ?_)))))
   all_goals try (first|(first|(refine z0c Tryz.func56 _ z2m ⟨_,rfl,?_,rfl⟩;have e0:0<c.heads.length:=(by omega);simp only[z96,zf4,zAy e0])|(obtain rfl:k1=c.tokens.length:=(by omega);refine z19 17 rfl ?_;refine z19 31 rfl ?_;refine z0c Tryz.func56 _ z2m ⟨_,rfl,?_,rfl⟩;have e0:¬ 0<c.heads.length:=(by omega);simp[z96,zf4,zAx e0,ints,strs]))|exact z0e (ih1 (k1+1) (by omega) (by omega)) rfl rfl|(exfalso;omega)|(exfalso;simp_all;done))
  case neg =>
   repeat' (first|(apply z04;(refine z0l ?_))|(apply z05;(first|refine z0k ?_|apply z09))|(apply z06;(first|apply z07|apply z00|apply z08|apply z01|apply z2z|refine z0h (fun _=>?_) (fun _=>?_)| refine z0o ?_))|(apply z2v;(first|(apply z1l;refine z2n mix ?_)|refine z3h ?_| (apply z0u;(refine z0w z18 rfl rfl ?_))|(apply z0q;(refine z0w z1a rfl rfl ?_))|(apply z3n;(refine z0w (z0y rfl) rfl rfl ?_))|(apply zh7;(refine zij (xs:=(List.replicate c.tokens.length (⟨#[]⟩:Str)).map fun x=>[z5p x]) (by first|exact rfl|exact⟨_,rfl,rfl,rfl⟩) rfl rfl (by omega) (by omega) rfl rfl rfl (by decide) (by simp) ?_)))))
   all_goals try (first|(first|(refine z0c Tryz.func56 _ z2m ⟨_,rfl,?_,rfl⟩;have e0:0<c.heads.length:=(by omega);simp only[z96,zf4,zAy e0])|(obtain rfl:k1=c.tokens.length:=(by omega);refine z19 17 rfl ?_;refine z19 31 rfl ?_;refine z0c Tryz.func56 _ z2m ⟨_,rfl,?_,rfl⟩;have e0:¬ 0<c.heads.length:=(by omega);simp[z96,zf4,zAx e0,ints,strs]))|(exfalso;omega)|(exfalso;simp_all;done))
theorem zkc (l:List Region) (hl:l.length≤1000000) (hs:∀ x∈l,SmP x.keys):NF Tryz.prog 50 [.d (.slice (l.map Region.cs))] (zwf l):=by
 refine z4y fun H=>?_
 refine z0g Tryz.func50 (by kernel_rfl) rfl (by simp) ?_
 dsimp only[Tryz.f50]
 repeat' (first|(apply z04;(first|refine z5z (d:=3) rfl rfl rfl (by decide) ?_|refine z0l ?_| (apply z0x;(refine z02 (z0y rfl) rfl rfl ?_))))|(apply z05;(first|refine z0k ?_|apply z09))|(apply z06;(first|apply z07|apply z00|apply z01)))
 all_goals try (first|(refine z19 3 rfl ?_;exact z0c Tryz.func50 _ z1j ⟨_,rfl,⟨q1,⟨by omega,hk1.2.2⟩,rfl⟩,rfl⟩)|(exfalso;omega)|(exfalso;simp_all;done))
 all_goals
  refine z0t ?_
  refine z0e (z1v (fun q:Nat × List Region=>⟨47,[(3,PV.ref (0,3)),(7,PV.lift 1 (PV.d (D.slice (List.map Region.cs l)))),(8,I IntKind.i64 (↑l.length:Int)),(9,I .i64 (q.1:Nat))],[(3,.row 84 4 (q.2.map Region.cs))],H⟩) (fun q:Nat × List Region=>q.1≤l.length∧q.2.length=q.1∧(∀ x∈q.2,x∈l)) (fun q:Nat × List Region=>l.length-q.1) ?_ ⟨0,[]⟩ ⟨zAf _,rfl,by simp⟩) rfl rfl
  intro ⟨k1,q1⟩ hk1 ih1
  simp only at hk1 ih1 ⊢
  by_cases hlt1:k1<l.length
  case pos =>
   obtain⟨x1,hx1⟩:∃ x,l[k1]? =some x:=⟨_,zA0 (by omega)⟩
   have hkx:=hs x1 (zA2 hx1)
   repeat' (first|(apply z04;(first|refine z0l ?_| (apply z0a;(refine z02 z2j rfl rfl ?_))|(apply z0n;(refine z02 (z1o rfl (idx hx1)) rfl rfl ?_))|(apply z0x;(refine z02 (z3m rfl) rfl rfl ?_))|(apply z0f;(refine z2d ?_))|(apply z0i;(refine z0b z1e ?_))))|(apply z05;(first|refine z0k ?_|apply z09))|(apply z06;(first|apply z07|apply z00|apply z08|apply z01|refine z0h (fun _=>?_) (fun _=>?_)| refine z0o ?_)))
   all_goals try (first|(refine z19 3 rfl ?_;exact z0c Tryz.func50 _ z1j ⟨_,rfl,⟨q1,⟨by omega,hk1.2.2⟩,rfl⟩,rfl⟩)|(refine z4x 32 3 rfl rfl ?_;exact z0e (ih1 ⟨k1+1,q1.take m2_6.toNat++x1::q1.drop m2_6.toNat⟩ ⟨by omega,by simp;omega,fun y hy=>by simp only[zAs,zAc] at hy;rcases hy with hy|rfl|hy;exact hk1.2.2 y (List.mem_of_mem_take hy);exact zA2 hx1;exact hk1.2.2 y (List.mem_of_mem_drop hy)⟩ (by simp;omega)) rfl rfl)|(exfalso;omega)|(exfalso;simp_all;done))
   all_goals
    refine z0t ?_
    refine z0e (z1v (fun m2_6:Int=>⟨47,[(3,PV.ref (0,3)),(5,PV.ptr (0,5) 0),(6,I .i64 m2_6),(7,PV.lift 1 (PV.d (D.slice (List.map Region.cs l)))),(8,I IntKind.i64 (↑l.length:Int)),(9,I IntKind.i64 (↑k1:Int))],[(5,Blk.box (z11 (z4u ({ size:=4,bytes:=56,kind:=TK.struct,fields:=[(0,1),(1,1),(2,1),(3,1)],zero:=[Value.string { data:=#[] },Value.int IntKind.i64 0,Value.int IntKind.i64 0,z1k] }:TI).zero) 0 (List.map PV.d x1.cs))),(3,Blk.row 84 4 (List.map Region.cs q1))],H⟩) (fun m2_6:Int=>0≤m2_6∧m2_6≤q1.length) (fun m2_6:Int=>m2_6.toNat) ?_ (q1.length:Int) (by omega)) rfl rfl
    intro m2_6 hk2 ih2
    have hq0:(q1++[(Region.mk ⟨#[]⟩ 0 0 [])]).length=q1.length+1:=by simp
    have hset:(z11 (q1++[(Region.mk ⟨#[]⟩ 0 0 [])]) (m2_6.toNat+1) (((q1++[(Region.mk ⟨#[]⟩ 0 0 [])]).drop m2_6.toNat).take (q1.length-m2_6.toNat))).set m2_6.toNat x1=q1.take m2_6.toNat++x1::q1.drop m2_6.toNat:=zpu q1 (Region.mk ⟨#[]⟩ 0 0 []) x1 m2_6.toNat (by omega)
    have hcp:z11 ((q1++[(Region.mk ⟨#[]⟩ 0 0 [])]).map Region.cs) (m2_6+1).toNat ((((q1++[(Region.mk ⟨#[]⟩ 0 0 [])]).map Region.cs).drop m2_6.toNat).take (q1.length-m2_6.toNat))=(z11 (q1++[(Region.mk ⟨#[]⟩ 0 0 [])]) (m2_6.toNat+1) (((q1++[(Region.mk ⟨#[]⟩ 0 0 [])]).drop m2_6.toNat).take (q1.length-m2_6.toNat))).map Region.cs:=by rw[← List.map_drop,← List.map_take,za1,show (m2_6+1).toNat=m2_6.toNat+1 by omega]
    have hgt:∃ v,(z11 (q1++[(Region.mk ⟨#[]⟩ 0 0 [])]) (m2_6.toNat+1) (((q1++[(Region.mk ⟨#[]⟩ 0 0 [])]).drop m2_6.toNat).take (q1.length-m2_6.toNat)))[m2_6.toNat]? =some v:=⟨_,zA0 (by rw[z1g];simp;omega)⟩
    obtain⟨vq,hgt⟩:=hgt
    by_cases hlt2:0<m2_6
    case pos =>
     obtain⟨y2,hy2⟩:∃ x,q1[(m2_6-1).toNat]? =some x:=⟨_,zA0 (by omega)⟩
     have hky:=hs y2 (hk1.2.2 y2 (zA2 hy2))
     repeat' (first|(apply z04;(first|refine z0l ?_| (apply z0a;(refine z02 z2a rfl rfl ?_))|(apply z0n;(refine z02 (z25 rfl (by omega) (by simp[z1g];omega) rfl) rfl rfl ?_))|(apply z0z;(first|refine z02 (z14 z1p) rfl rfl ?_| refine z02 (z2q z1p) rfl rfl ?_))|(apply z0x;(refine z97 (Region.mk ⟨#[]⟩ 0 0 []) rfl ?_))|(apply z0f;(refine z27 x1 (by rfl) (by rfl) (by rfl) (by rfl) hgt (by rfl) (by rfl) (by rfl) hset ?_))|(apply z1i;(refine z2x ?_))|(apply z3t;(refine z3s rfl ?_))))|(apply z05;(first|refine z0k ?_|apply z09))|(apply z06;(first|apply z07|apply z00|refine z1f ?_| apply z08|apply z01|apply z2z|apply z03|refine z0h (fun _=>?_) (fun _=>?_)| refine z0o ?_))|(apply z2v;(first|(apply z1l;refine z2n mix ?_)|refine z6r rfl rfl (by decide) ?_|refine z3h ?_| (apply z0u;(first|refine z0w (zc7 hy2 rfl rfl) rfl rfl ?_| refine z0w z2a rfl rfl ?_))|(apply z1n;(refine z0w (z25 rfl (by omega) (by simp[z1g];omega) rfl) rfl rfl ?_))|(apply z3y;(first|refine z0w (z14 z1p) rfl rfl ?_| refine z0w (z2q z1p) rfl rfl ?_))|(apply z6e;(refine z0w (zfe rfl (by omega) (by simp;omega) rfl) rfl rfl ?_))|(apply z3n;(refine zch (by first|exact rfl|exact⟨_,rfl,rfl,rfl⟩) rfl rfl rfl rfl (by decide) (by simp;omega) (by simp;omega) (c:=q1.length-m2_6.toNat) (by simp;omega) hcp ?_))|(apply z22;(refine z5f (z8x (ziw _ _ hky hkx)) ?_))|(refine z4b rfl rfl (fun hg=>?_) (fun hg=>?_) <;> simp only[hg] <;> (try simp only[zA3,zA5,zA6,zA8] at hg)))))
     all_goals try (first|(refine z19 3 rfl ?_;exact z0c Tryz.func50 _ z1j ⟨_,rfl,⟨q1,⟨by omega,hk1.2.2⟩,rfl⟩,rfl⟩)|exact z0e (ih2 (m2_6-1) (by omega) (by omega)) rfl rfl|(refine z4x 32 3 rfl rfl ?_;exact z0e (ih1 ⟨k1+1,q1.take m2_6.toNat++x1::q1.drop m2_6.toNat⟩ ⟨by omega,by simp;omega,fun y hy=>by simp only[zAs,zAc] at hy;rcases hy with hy|rfl|hy;exact hk1.2.2 y (List.mem_of_mem_take hy);exact zA2 hx1;exact hk1.2.2 y (List.mem_of_mem_drop hy)⟩ (by simp;omega)) rfl rfl)|(exfalso;omega)|(exfalso;simp_all;done))
    case neg =>
     repeat' (first|(apply z04;(first|refine z0l ?_| (apply z0a;(refine z02 z2a rfl rfl ?_))|(apply z0n;(refine z02 (z25 rfl (by omega) (by simp[z1g];omega) rfl) rfl rfl ?_))|(apply z0z;(refine z02 (z14 z1p) rfl rfl ?_))|(apply z0x;(refine z97 (Region.mk ⟨#[]⟩ 0 0 []) rfl ?_))|(apply z0f;(refine z27 x1 (by rfl) (by rfl) (by rfl) (by rfl) hgt (by rfl) (by rfl) (by rfl) hset ?_))|(apply z1i;(refine z2x ?_))|(apply z3t;(refine z3s rfl ?_))))|(apply z05;(first|refine z0k ?_|apply z09))|(apply z06;(first|apply z07|apply z00|refine z1f ?_| apply z2z|apply z03|refine z0o ?_))|(apply z2v;(first|(apply z1l;refine z2n mix ?_)|refine z6r rfl rfl (by decide) ?_|refine z3h ?_| (apply z1n;(refine z0w (z25 rfl (by omega) (by simp[z1g];omega) rfl) rfl rfl ?_))|(apply z3y;(first|refine z0w (z14 z1p) rfl rfl ?_| refine z0w (z2q z1p) rfl rfl ?_))|(apply z6e;(refine z0w (zfe rfl (by omega) (by simp;omega) rfl) rfl rfl ?_))|(apply z3n;(refine zch (by first|exact rfl|exact⟨_,rfl,rfl,rfl⟩) rfl rfl rfl rfl (by decide) (by simp;omega) (by simp;omega) (c:=q1.length-m2_6.toNat) (by simp;omega) hcp ?_))|(refine z4b rfl rfl (fun hg=>?_) (fun hg=>?_) <;> simp only[hg] <;> (try simp only[zA3,zA5,zA6,zA8] at hg)))))
     all_goals try (first|(refine z19 3 rfl ?_;exact z0c Tryz.func50 _ z1j ⟨_,rfl,⟨q1,⟨by omega,hk1.2.2⟩,rfl⟩,rfl⟩)|(refine z4x 32 3 rfl rfl ?_;exact z0e (ih1 ⟨k1+1,q1.take m2_6.toNat++x1::q1.drop m2_6.toNat⟩ ⟨by omega,by simp;omega,fun y hy=>by simp only[zAs,zAc] at hy;rcases hy with hy|rfl|hy;exact hk1.2.2 y (List.mem_of_mem_take hy);exact zA2 hx1;exact hk1.2.2 y (List.mem_of_mem_drop hy)⟩ (by simp;omega)) rfl rfl)|(exfalso;omega)|(exfalso;simp_all;done))
  case neg =>
   repeat' (first|(apply z04;(refine z0l ?_))|(apply z05;(first|refine z0k ?_|apply z09))|(apply z06;(first|apply z07|apply z00|apply z08|apply z01|refine z0h (fun _=>?_) (fun _=>?_)| refine z0o ?_)))
   all_goals try (first|(refine z19 3 rfl ?_;exact z0c Tryz.func50 _ z1j ⟨_,rfl,⟨q1,⟨by omega,hk1.2.2⟩,rfl⟩,rfl⟩)|(exfalso;omega)|(exfalso;simp_all;done))
theorem zmx (c:z0v) (hc:Small c):NF Tryz.prog 116 [c.d] zu4:=by
 refine z4y fun H=>?_
 refine z0g Tryz.func116 (by kernel_rfl) rfl (by simp) ?_
 dsimp only[Tryz.f116]
 have h2:=hc.nregs
 repeat' (first|(apply z04;(first|refine z0l ?_| (apply z0a;(refine z02 z18 rfl rfl ?_))|(apply z0d;(refine z02 z1a rfl rfl ?_))|(apply z0x;(refine z02 (z0y rfl) rfl rfl ?_))|(apply z1c;(refine z0b z1q ?_))))|(apply z05;(first|refine z0k ?_|(apply z34;refine z36 [0,1,2,3,4,5,6,7,8,9,13,15,16,17,18,22,28,41,56,62,63,64,65,80,136,140,100500,100501] (by repeat' (first|exact z2b.nil|apply z2b.yes rfl|apply z2b.no)) (by repeat' (first|exact z0p.nil|apply z0p.old rfl|apply z0p.gone|apply z0p.new rfl)) ?_)))|(apply z06;(first|apply z07|apply z00|apply z08|apply z01|refine z0h (fun _=>?_) (fun _=>?_))))
 all_goals try (first|exact z0c Tryz.func116 _ z2m ⟨_,rfl,⟨_,_,rfl⟩,rfl⟩|((fail_if_success (refine z0t ?_));exfalso;(try clear ih1);(try clear ih2);(try clear hm13);(try clear hm19);(try clear hm21);(first|omega|(simp_all;done))))
 all_goals
  refine z0t ?_
  refine z0e (z1v (fun k1:Nat=>⟨143,[(1,PV.ptr (0,1) 0),(15,PV.d (D.slice (List.map Region.cs c.regions))),(16,I IntKind.i64 (↑c.regions.length:Int)),(17,I .i64 (k1:Nat))],[(1,Blk.box (List.map PV.d c.cs))],H⟩) (fun k1:Nat=>k1≤c.regions.length) (fun k1:Nat=>c.regions.length-k1) ?_ 0 (zAf _)) rfl rfl
  intro k1 hk1 ih1
  by_cases hlt1:k1<c.regions.length
  case pos =>
   obtain⟨x1,hx1⟩:∃ x,c.regions[k1]? =some x:=⟨_,zA0 (by omega)⟩
   have hp1:=hc.reg x1 (zA2 hx1)
   have hn1:=hp1.1
   obtain⟨y1,hy1⟩:∃ y,c.regions[((k1:Int)-1).toNat]? =some y:=⟨_,zA0 (by omega)⟩
   have hp2:=hc.reg y1 (zA2 hy1)
   repeat' (first|(apply z04;(first|refine z0l ?_| (apply z0a;(first|refine z02 z2c rfl rfl ?_| refine z02 z18 rfl rfl ?_| refine z02 z2j rfl rfl ?_))|(apply z0d;(refine z02 z1a rfl rfl ?_))|(apply z0n;(refine z02 (z1o rfl (idx hx1)) rfl rfl ?_))|(apply z0z;(refine z02 (z14 z1p) rfl rfl ?_))|(apply za8;(refine z02 (z6m rfl (by omega) (by omega) (fun _=>rfl)) rfl rfl ?_))|(apply z0x;(refine z02 (z0y rfl) rfl rfl ?_))|(apply z0j;(first|(refine z7a (z4z _ (by omega)) rfl (by decide) (fun p hp=>?_);obtain⟨_,rfl⟩:=hp)|(refine z7a (zj7 _ _ _ hc) rfl (by decide) (fun p hp=>?_);obtain⟨_,rfl⟩:=hp)|(refine z7a (zht _ hp1.2.1) rfl (by decide) (fun p hp=>?_);obtain⟨_,rfl⟩:=hp)))|(apply z0f;(refine z2d ?_))|(apply z0i;(refine z0b z1e ?_))))|(apply z05;(first|refine z0k ?_|(apply z34;refine z36 [0,1,2,3,4,5,6,7,8,9,13,15,16,17,18,22,28,41,56,62,63,64,65,80,136,140,100500,100501] (by repeat' (first|exact z2b.nil|apply z2b.yes rfl|apply z2b.no)) (by repeat' (first|exact z0p.nil|apply z0p.old rfl|apply z0p.gone|apply z0p.new rfl)) ?_)))|(apply z06;(first|(refine zb0 (b:= ?_) hm13 ?_ ?_ ?_;rotate_left;(exact rfl);(exact rfl);(exact rfl))|refine zes 13 56 (fun b13=>?_) (fun hm13=>?_)|apply z07|apply z00|apply z08|apply z01|apply z03|refine z0h (fun _=>?_) (fun _=>?_)| refine z3o rfl (fun _=>?_) (fun _=>?_)|refine z2i rfl (fun _=>?_) (fun _=>?_)|refine z0o ?_))|(apply z2v;(first|(apply z1l;refine z7i [0,1,2,3,4,5,6,7,8,9,13,15,16,17,18,22,28,41,56,62,63,64,65,80,136,140,100500,100501] mix (by kernel_rfl) (by repeat' (first|exact z2b.nil|apply z2b.yes rfl|apply z2b.no)) (by repeat' (first|exact z0p.nil|apply z0p.old rfl|apply z0p.gone|apply z0p.new rfl)) ?_)|refine z6r rfl rfl (by decide) ?_|refine z3h ?_| (apply z0u;(first|refine z0w z18 rfl rfl ?_| refine z0w z2j rfl rfl ?_| refine z0w z2a rfl rfl ?_))|(apply z0q;(refine z0w z1a rfl rfl ?_))|(apply z1n;(refine z0w (z1o rfl (z6u hy1)) rfl rfl ?_))|(apply z3y;(refine z0w (z2q z1p) rfl rfl ?_))|(apply z22;(refine z5f (z8x (ziw _ _ hp2.2.1 hp1.2.1)) ?_))|(refine z4b rfl rfl (fun hg=>?_) (fun hg=>?_) <;> simp only[hg] <;> (try simp only[zA3,zA5,zA6,zA8] at hg)))))
   all_goals try (first|exact z0c Tryz.func116 _ z2m ⟨_,rfl,⟨_,_,rfl⟩,rfl⟩|exact z0e (ih1 (k1+1) (by omega) (by omega)) rfl rfl|((fail_if_success (refine z0t ?_));exfalso;(try clear ih1);(try clear ih2);(try clear hm13);(try clear hm19);(try clear hm21);(first|omega|(simp_all;done))))
   all_goals
    refine z0t ?_
    refine z0e (z1v (fun q:Nat × Int=>⟨143,[(1,PV.ptr (0,1) 0),(4,I IntKind.i64 (↑k1:Int)),(5,PV.ptr (0,5) 0),(7,I .i64 q.2),(15,PV.d (D.slice (List.map Region.cs c.regions))),(16,I IntKind.i64 (↑c.regions.length:Int)),(17,I IntKind.i64 (↑k1:Int)),(62,PV.d (D.slice (List.map Region.cs (List.take ((↑k1:Int)+1).toNat c.regions)))),(63,I IntKind.i64 (↑(List.take ((↑k1:Int)+1).toNat c.regions).length:Int)),(64,I .i64 (q.1:Nat))],[(1,Blk.box (List.map PV.d c.cs)),(5,Blk.box (z11 (z4u ({ size:=4,bytes:=56,kind:=TK.struct,fields:=[(0,1),(1,1),(2,1),(3,1)],zero:=[Value.string { data:=#[] },Value.int IntKind.i64 0,Value.int IntKind.i64 0,z1k] }:TI).zero) 0 (List.map PV.d x1.cs)))],H⟩) (fun q:Nat × Int=>q.1≤(List.take ((k1:Int)+1).toNat c.regions).length∧0≤q.2∧q.2≤q.1) (fun q:Nat × Int=>(List.take ((↑k1:Int)+1).toNat c.regions).length-q.1) ?_ ⟨0,_⟩ (by simp)) rfl rfl
    intro ⟨k2,m2_7⟩ hk2 ih2
    simp only at hk2 ih2 ⊢
    by_cases hlt2:k2<(List.take ((↑k1:Int)+1).toNat c.regions).length
    case pos =>
     obtain⟨x2,hx2⟩:∃ x,(List.take ((k1:Int)+1).toNat c.regions)[k2]? =some x:=⟨_,zA0 (by omega)⟩
     have hl2:(List.take ((k1:Int)+1).toNat c.regions).length≤c.regions.length:=by rw[zAm];omega
     have hl2:(List.take ((↑k1:Int)+1).toNat c.regions).length≤_:=List.length_take_le _ _
     repeat' (first|(apply z04;(first|refine z0l ?_| (apply z0a;(first|refine z02 z18 rfl rfl ?_| refine z02 z2j rfl rfl ?_))|(apply z0d;(refine z02 z1a rfl rfl ?_))|(apply z0n;(refine z02 (z1o rfl (idx hx2)) rfl rfl ?_))|(apply z0z;(refine z02 (z14 z1p) rfl rfl ?_))|(apply z0f;(refine z2d ?_))|(apply z0i;(refine z0b z1e ?_))))|(apply z05;(first|refine z0k ?_|(apply z34;refine z36 [0,1,2,3,4,5,6,7,8,9,13,15,16,17,18,22,28,41,56,62,63,64,65,80,136,140,100500,100501] (by repeat' (first|exact z2b.nil|apply z2b.yes rfl|apply z2b.no)) (by repeat' (first|exact z0p.nil|apply z0p.old rfl|apply z0p.gone|apply z0p.new rfl)) ?_)|refine z1m ?_| refine z9j rfl rfl (by decide) ?_|refine z1t (fun _=>?_) (fun _=>?_)| refine z3v rfl rfl (fun _=>?_) (fun _=>?_)))|(apply z06;(first|(refine zb0 (b:= ?_) hm19 ?_ ?_ ?_;rotate_left;(exact rfl);(exact rfl);(exact rfl))|(refine zb0 (b:= ?_) hm21 ?_ ?_ ?_;rotate_left;(exact rfl);(exact rfl);(exact rfl))|refine z6h 19 80 (fun b19=>?_) (fun hm19=>?_)|refine z6h 21 136 (fun b21=>?_) (fun hm21=>?_)|apply z07|apply z00|apply z08|apply z01|apply z03|refine z0h (fun _=>?_) (fun _=>?_)| refine z2i rfl (fun _=>?_) (fun _=>?_)|refine z0o ?_)))
     all_goals try (first|exact z0c Tryz.func116 _ z2m ⟨_,rfl,⟨_,_,rfl⟩,rfl⟩|exact z0e (ih2 ⟨k2+1,_⟩ (by simp at hk2 ⊢;omega) (by omega)) rfl rfl|exact z0e (ih1 (k1+1) (by omega) (by omega)) rfl rfl|((fail_if_success (refine z0t ?_));exfalso;(try clear ih1);(try clear ih2);(try clear hm13);(try clear hm19);(try clear hm21);(first|omega|(simp_all;done))))
    case neg =>
     repeat' (first|(apply z04;(first|refine z0l ?_| (apply z0z;(refine z02 (z14 z1p) rfl rfl ?_))))|(apply z05;(first|refine z0k ?_|(apply z34;refine z36 [0,1,2,3,4,5,6,7,8,9,13,15,16,17,18,22,28,41,56,62,63,64,65,80,136,140,100500,100501] (by repeat' (first|exact z2b.nil|apply z2b.yes rfl|apply z2b.no)) (by repeat' (first|exact z0p.nil|apply z0p.old rfl|apply z0p.gone|apply z0p.new rfl)) ?_)))|(apply z06;(first|apply z07|apply z00|apply z08|apply z01|apply z03|refine z0h (fun _=>?_) (fun _=>?_)| refine z0o ?_)))
     all_goals try (first|exact z0c Tryz.func116 _ z2m ⟨_,rfl,⟨_,_,rfl⟩,rfl⟩|exact z0e (ih1 (k1+1) (by omega) (by omega)) rfl rfl|((fail_if_success (refine z0t ?_));exfalso;(try clear ih1);(try clear ih2);(try clear hm13);(try clear hm19);(try clear hm21);(first|omega|(simp_all;done))))
  case neg =>
   repeat' (first|(apply z04;(refine z0l ?_))|(apply z05;(first|refine z0k ?_|(apply z34;refine z36 [0,1,2,3,4,5,6,7,8,9,13,15,16,17,18,22,28,41,56,62,63,64,65,80,136,140,100500,100501] (by repeat' (first|exact z2b.nil|apply z2b.yes rfl|apply z2b.no)) (by repeat' (first|exact z0p.nil|apply z0p.old rfl|apply z0p.gone|apply z0p.new rfl)) ?_)))|(apply z06;(first|apply z07|apply z00|apply z08|apply z01|refine z0h (fun _=>?_) (fun _=>?_)| refine z0o ?_)))
   all_goals try (first|exact z0c Tryz.func116 _ z2m ⟨_,rfl,⟨_,_,rfl⟩,rfl⟩|((fail_if_success (refine z0t ?_));exfalso;(try clear ih1);(try clear ih2);(try clear hm13);(try clear hm19);(try clear hm21);(first|omega|(simp_all;done))))
end Go.Proofs.YtonhfccmeammbaaGreatDoor
