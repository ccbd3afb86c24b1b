/- A part. -/
import Derived.Test.YtonhfccmeammbaaGreatDoorVTA
set_option linter.all false
open Go.Proofs.Tryz
namespace Go.Proofs.YtonhfccmeammbaaGreatDoor
open Go.Ab
set_option maxHeartbeats 20000000
attribute [local irreducible] Run Ops Op1 z1z Val Tr z0q z1v NF Rel
theorem zsx(c:z10)(i:Int)(hc:Small c):NF prog 143 [c.d,I .i64 i] (fun p=>p=I .i64 (z56 c.texts 0 i)):=by
 refine z5u fun H=>?_
 refine z0g func143 (by kernel_rfl) rfl (by simp) ?_
 dsimp only[f143]
 have:=hc.ntexts
 repeat' first|(apply z05;first|refine z0n ?_| (apply z0a;refine z02 z16 rfl rfl ?_)|(apply z0c;refine z02 z0i rfl rfl ?_)|(apply z0s;refine z02 (z0w rfl) rfl rfl ?_)|(apply z18;refine z0b z1m ?_))|(apply z06;first|refine z0m ?_|apply z09)|(apply z07;first|apply z08|apply z00|apply z01)
 all_goals try first|exact z0e func143 _ z0p ⟨_,rfl,(by rw[←hk1.2];first|(rw[z3y hx1,z56,zAz (by omega)];done)|(rw[List.drop_eq_nil_of_le (by omega)];rfl)),rfl⟩|omega|(exfalso;simp_all;done)
 all_goals
  refine z0r ?_
  refine z0d (z1o (fun k1:Nat=>⟨27,[(1,PV.lift 1 (I IntKind.i64 i)),(8,PV.d (D.slice (List.map Text.cs c.texts))),(9,I IntKind.i64 (↑c.texts.length:Int)),(10,I .i64 (k1:Nat))],[],H⟩) (fun k1:Nat=>k1≤c.texts.length∧z56 (c.texts.drop k1) k1 i=z56 c.texts 0 i) (fun k1:Nat=>c.texts.length-k1) ?_ 0 ⟨zAf _,rfl⟩) rfl rfl
  intro k1 hk1 ih1
  by_cases hlt1:k1<c.texts.length
  case pos =>
   obtain⟨x1,hx1⟩:∃x,c.texts[k1]? =some x:=⟨_,zA0 (by first|omega|(simp;omega))⟩
   repeat' first|(apply z05;first|refine z0n ?_| (apply z0a;first|refine z02 z16 rfl rfl ?_| refine z02 z1w rfl rfl ?_)|(apply z0c;refine z02 z0i rfl rfl ?_)|(apply z0k;refine z02 (z1a rfl (idx hx1)) rfl rfl ?_)|(apply z0t;refine z02 (z0z z1h) rfl rfl ?_)|(apply z0f;refine z25 ?_)|(apply z0l;refine z0b z2e ?_))|(apply z06;first|refine z0m ?_|apply z09|refine z1g ?_| refine z1p (fun _=>?_) fun _=>?_)|(apply z07;first|apply z08|apply z00|refine z15 ?_| apply z04|apply z01|apply z03|refine z0h (fun _=>?_) (fun _=>?_)| refine z0o ?_)
   all_goals try first|exact z0e func143 _ z0p ⟨_,rfl,(by rw[←hk1.2];first|(rw[z3y hx1,z56,zAz (by omega)];done)|(rw[List.drop_eq_nil_of_le (by omega)];rfl)),rfl⟩|exact z0d (ih1 (k1+1) ⟨by omega,by rw[←hk1.2,z3y hx1,z56,zAy (by omega)]⟩ (by omega)) rfl rfl|omega|(exfalso;simp_all;done)
  case neg =>
   repeat' first|(apply z05;refine z0n ?_)|(apply z06;first|refine z0m ?_|apply z09)|(apply z07;first|apply z08|apply z00|apply z04|apply z01|refine z0h (fun _=>?_) (fun _=>?_)| refine z0o ?_)
   all_goals try first|exact z0e func143 _ z0p ⟨_,rfl,(by rw[←hk1.2];first|(rw[z3y hx1,z56,zAz (by omega)];done)|(rw[List.drop_eq_nil_of_le (by omega)];rfl)),rfl⟩|omega|(exfalso;simp_all;done)
theorem zlr(a b:Region)(ha:SmP a.keys)(hb:SmP b.keys):NF prog 85 [.d (.agg a.cs),.d (.agg b.cs)] (fun p=>p=I .i64 (zf4 a b)):=by
 refine z5u fun H=>?_
 refine z0g func85 (by kernel_rfl) rfl (by simp) ?_
 dsimp only[f85]
 have hla:=ha.1
 have hlb:=hb.1
 repeat' first|(apply z05;first|refine z0n ?_| (apply z0a;refine z02 z16 rfl rfl ?_)|(apply z0c;refine z02 z0i rfl rfl ?_)|(apply z0j;first|refine z29 (zqz _) ?_| refine z29 (zif _ _) ?_)|(apply z18;refine z0b z1m ?_))|(apply z06;first|refine z0m ?_|apply z09)|(apply z07;first|apply z08|apply z00|apply z04|apply z01|apply z03|refine z38 rfl (fun _=>?_) fun _=>?_)
 all_goals try first|exact z0e func85 _ z0p ⟨_,rfl,(by first|(simp_all [zf4];done)|(rw[hq,←hk1.2.2,z3y hx1,z3y hy1];(first|rw[z4f,zAz (by assumption)]|rw[z4f,zAy (by simp only[ne_eq,Decidable.not_not];assumption),zAz (by assumption)]|rw[z4f,zAy (by simp only[ne_eq,Decidable.not_not];assumption),zAy (by simp only[ne_eq,Decidable.not_not];assumption)]);done)|(rw[hq,←hk1.2.2,z5s hlt1,zAz (by assumption)];done)|(rw[hq,←hk1.2.2,z5s hlt1,zAy (by simp only[ne_eq,Decidable.not_not];assumption)];done)),rfl⟩|omega|(exfalso;simp_all;done)
 all_goals
  have hq:zf4 a b=z4f a.keys b.keys:=by simp_all [zf4]
  refine z0r ?_
  refine z0d (z1o (fun k1:Nat=>⟨122,[(2,PV.ptr (0,2) 0),(3,PV.ptr (0,3) 0),(5,I .i64 (k1:Nat))],[(2,Blk.box (List.map PV.d a.cs)),(3,Blk.box (List.map PV.d b.cs))],H⟩) (fun k1:Nat=>k1≤a.keys.length∧k1≤b.keys.length∧z4f (a.keys.drop k1) (b.keys.drop k1)=z4f a.keys b.keys) (fun k1:Nat=>a.keys.length-k1) ?_ 0 ⟨zAf _,zAf _,rfl⟩) rfl rfl
  intro k1 hk1 ih1
  by_cases hlt1:k1<a.keys.length∧k1<b.keys.length
  case pos =>
   obtain⟨x1,hx1⟩:∃x,a.keys[k1]? =some x:=⟨_,zA0 (by omega)⟩
   obtain⟨y1,hy1⟩:∃x,b.keys[k1]? =some x:=⟨_,zA0 (by omega)⟩
   repeat' first|(apply z05;first|refine z0n ?_| (apply z0a;refine z02 z16 rfl rfl ?_)|(apply z0c;refine z02 z0i rfl rfl ?_)|(apply z0t;refine z02 (z0z z1h) rfl rfl ?_)|(apply z0s;refine z02 (z0w rfl) rfl rfl ?_)|(apply z0j;refine z29 (zqz _) ?_))|(apply z06;first|refine z0m ?_|apply z09|refine z1g ?_| refine z1p (fun _=>?_) fun _=>?_)|(apply z07;first|apply z08|apply z00|refine z15 ?_| apply z04|apply z01|apply z2o|apply z03|refine z0h (fun _=>?_) (fun _=>?_)| refine z38 rfl (fun _=>?_) (fun _=>?_)|refine z0o ?_)|(apply z2m;first|(apply z1e;refine z2c mix ?_)|refine z2w ?_| (apply z0v;first|refine z0x z16 rfl rfl ?_| refine z0x z2f rfl rfl ?_)|(apply z0u;first|refine z0x z0i rfl rfl ?_| refine z0x (z5o rfl rfl) rfl rfl ?_)|(apply z1i;first|refine z0x (z1a rfl (idx hx1)) rfl rfl ?_| refine z0x (z1a rfl (idx hy1)) rfl rfl ?_)|(apply z1s;refine z5b (zif _ _) ?_))
   all_goals try first|exact z0e func85 _ z0p ⟨_,rfl,(by first|(simp_all [zf4];done)|(rw[hq,←hk1.2.2,z3y hx1,z3y hy1];(first|rw[z4f,zAz (by assumption)]|rw[z4f,zAy (by simp only[ne_eq,Decidable.not_not];assumption),zAz (by assumption)]|rw[z4f,zAy (by simp only[ne_eq,Decidable.not_not];assumption),zAy (by simp only[ne_eq,Decidable.not_not];assumption)]);done)|(rw[hq,←hk1.2.2,z5s hlt1,zAz (by assumption)];done)|(rw[hq,←hk1.2.2,z5s hlt1,zAy (by simp only[ne_eq,Decidable.not_not];assumption)];done)),rfl⟩|exact z0d (ih1 (k1+1) ⟨by omega,by omega,by rw[←hk1.2.2,z3y hx1,z3y hy1];(first|rw[z4f,zAz (by assumption)]|rw[z4f,zAy (by simp only[ne_eq,Decidable.not_not];assumption),zAz (by assumption)]|rw[z4f,zAy (by simp only[ne_eq,Decidable.not_not];assumption),zAy (by simp only[ne_eq,Decidable.not_not];assumption)])⟩ (by omega)) rfl rfl|omega|(exfalso;simp_all;done)
  case neg =>
   repeat' first|(apply z05;first|refine z0n ?_| (apply z0a;refine z02 z16 rfl rfl ?_)|(apply z0c;refine z02 z0i rfl rfl ?_)|(apply z0s;refine z02 (z0w rfl) rfl rfl ?_)|(apply z0j;refine z29 (zqz _) ?_))|(apply z06;first|refine z0m ?_|apply z09|refine z1g ?_| refine z1p (fun _=>?_) fun _=>?_)|(apply z07;first|apply z08|apply z00|refine z15 ?_| apply z04|apply z01|apply z2o|refine z0h (fun _=>?_) (fun _=>?_)| refine z38 rfl (fun _=>?_) (fun _=>?_)|refine z0o ?_)|(apply z2m;first|refine z2w ?_| (apply z0v;refine z0x z16 rfl rfl ?_)|(apply z0u;refine z0x z0i rfl rfl ?_))
   all_goals try first|exact z0e func85 _ z0p ⟨_,rfl,(by first|(simp_all [zf4];done)|(rw[hq,←hk1.2.2,z3y hx1,z3y hy1];(first|rw[z4f,zAz (by assumption)]|rw[z4f,zAy (by simp only[ne_eq,Decidable.not_not];assumption),zAz (by assumption)]|rw[z4f,zAy (by simp only[ne_eq,Decidable.not_not];assumption),zAy (by simp only[ne_eq,Decidable.not_not];assumption)]);done)|(rw[hq,←hk1.2.2,z5s hlt1,zAz (by assumption)];done)|(rw[hq,←hk1.2.2,z5s hlt1,zAy (by simp only[ne_eq,Decidable.not_not];assumption)];done)),rfl⟩|omega|(exfalso;simp_all;done)
theorem ziv(a:List Attr)(hn:a.length≤1000000)(ha:∀x∈a,x.name.size≤1000000):NF prog 113 [.d (.slice (a.map Attr.cs))] y14:=by
 refine z5u fun H=>?_
 refine z0g func113 (by kernel_rfl) rfl (by simp) ?_
 dsimp only[f113]
 repeat' first|(apply z05;first|refine z0n ?_| (apply z0s;refine z02 (z0w rfl) rfl rfl ?_))|(apply z06;first|refine z0m ?_|apply z09)|(apply z07;first|apply z08|apply z00|apply z04|apply z01|refine z0h (fun _=>?_) fun _=>?_)
 all_goals try first|exact z0e func113 _ z2s ⟨_,rfl,⟨_,_,rfl⟩,rfl⟩|omega|(exfalso;simp_all;done)
 all_goals
  refine z0r ?_
  refine z0d (z1o (fun k1:Nat=>⟨42,[(0,PV.lift 1 (PV.d (D.slice (List.map Attr.cs a)))),(14,PV.lift 1 (PV.d (D.slice (List.map Attr.cs a)))),(15,I IntKind.i64 (↑a.length:Int)),(16,I .i64 (k1:Nat))],[],H⟩) (fun k1:Nat=>k1≤a.length) (fun k1:Nat=>a.length-k1) ?_ 0 (zAf _)) rfl rfl
  intro k1 hk1 ih1
  by_cases hlt1:k1<a.length
  case pos =>
   obtain⟨x1,hx1⟩:∃x,a[k1]? =some x:=⟨_,zA0 (by omega)⟩
   have hp1:=ha x1 (zA2 hx1)
   repeat' first|(apply z05;first|refine z0n ?_| (apply z0a;first|refine z02 z16 rfl rfl ?_| refine z02 z1w rfl rfl ?_)|(apply z0c;refine z02 z0i rfl rfl ?_)|(apply z0k;refine z02 (z1a rfl (idx hx1)) rfl rfl ?_)|(apply zc0;refine z02 (z7v rfl (by omega) (by omega) fun _=>rfl) rfl rfl ?_)|(apply z0s;refine z02 (z0w rfl) rfl rfl ?_)|(apply z0j;refine z8h (z5t _ (by omega)) rfl (by decide) (fun p hp=>?_);obtain⟨_,rfl⟩:=hp)|(apply z0f;refine z25 ?_)|(apply z0l;refine z0b z2e ?_))|(apply z06;first|refine z0m ?_|apply z09)|(apply z07;first|apply z08|apply z00|apply z04|apply z01|refine z0h (fun _=>?_) (fun _=>?_)| refine z2q rfl (fun _=>?_) (fun _=>?_)|refine z0o ?_)
   all_goals try first|exact z0e func113 _ z2s ⟨_,rfl,⟨_,_,rfl⟩,rfl⟩|exact z0d (ih1 (k1+1) (by omega) (by omega)) rfl rfl|omega|(exfalso;simp_all;done)
   all_goals
    refine z0r ?_
    refine z0d (z1o (fun k2:Nat=>⟨42,[(0,PV.lift 1 (PV.d (D.slice (List.map Attr.cs a)))),(4,I IntKind.i64 (↑k1:Int)),(5,PV.ptr (0,5) 0),(14,PV.lift 1 (PV.d (D.slice (List.map Attr.cs a)))),(15,I IntKind.i64 (↑a.length:Int)),(16,I IntKind.i64 (↑k1:Int)),(28,PV.d (D.slice (List.map Attr.cs (List.take (↑k1:Int).toNat a)))),(29,I IntKind.i64 (↑(List.take (↑k1:Int).toNat a).length:Int)),(30,I .i64 (k2:Nat))],[(5,Blk.box (z1b (z5q ({ size:=2,bytes:=24,kind:=TK.struct,fields:=[(0,1),(1,1)],zero:=[Value.string { data:=#[] },Value.bool false] }:TI).zero) 0 (List.map PV.d x1.cs)))],H⟩) (fun k2:Nat=>k2≤(List.take (↑k1:Int).toNat a).length) (fun k2:Nat=>(List.take (↑k1:Int).toNat a).length-k2) ?_ 0 (zAf _)) rfl rfl
    intro k2 hk2 ih2
    by_cases hlt2:k2<(List.take (↑k1:Int).toNat a).length
    case pos =>
     have hl2:(List.take (↑k1:Int).toNat a).length≤_:=List.length_take_le _ _
     obtain⟨x2,hx2⟩:∃x,(List.take (↑k1:Int).toNat a)[k2]? =some x:=⟨_,zA0 (by first|omega|(simp;omega))⟩
     repeat' first|(apply z05;first|refine z0n ?_| (apply z0a;first|refine z02 z16 rfl rfl ?_| refine z02 z1w rfl rfl ?_)|(apply z0c;refine z02 z0i rfl rfl ?_)|(apply z0k;refine z02 (z1a rfl (idx hx2)) rfl rfl ?_)|(apply z0t;refine z02 (z0z z1h) rfl rfl ?_)|(apply z0f;refine z25 ?_)|(apply z0l;refine z0b z2e ?_))|(apply z06;first|refine z0m ?_|apply z09)|(apply z07;first|apply z08|apply z00|apply z04|apply z01|apply z03|refine z0h (fun _=>?_) (fun _=>?_)| refine z0o ?_)
     all_goals try first|exact z0e func113 _ z2s ⟨_,rfl,⟨_,_,rfl⟩,rfl⟩|exact z0d (ih2 (k2+1) (by omega) (by omega)) rfl rfl|exact z0d (ih1 (k1+1) (by omega) (by omega)) rfl rfl|omega|(exfalso;simp_all;done)
    case neg =>
     repeat' first|(apply z05;first|refine z0n ?_| (apply z0t;refine z02 (z0z z1h) rfl rfl ?_))|(apply z06;first|refine z0m ?_|apply z09)|(apply z07;first|apply z08|apply z00|apply z04|apply z01|apply z03|refine z0h (fun _=>?_) (fun _=>?_)| refine z0o ?_)
     all_goals try first|exact z0e func113 _ z2s ⟨_,rfl,⟨_,_,rfl⟩,rfl⟩|exact z0d (ih1 (k1+1) (by omega) (by omega)) rfl rfl|omega|(exfalso;simp_all;done)
  case neg =>
   repeat' first|(apply z05;refine z0n ?_)|(apply z06;first|refine z0m ?_|apply z09)|(apply z07;first|apply z08|apply z00|apply z04|apply z01|refine z0h (fun _=>?_) (fun _=>?_)| refine z0o ?_)
   all_goals try first|exact z0e func113 _ z2s ⟨_,rfl,⟨_,_,rfl⟩,rfl⟩|omega|(exfalso;simp_all;done)
theorem zu1(c:z10)(hc:Small c):NF prog 114 [c.d] y14:=by
 refine z5u fun H=>?_
 refine z0g func114 (by kernel_rfl) rfl (by simp) ?_
 dsimp only[f114]
 have h1:=hc.toks
 have h2:=hc.nattrs
 repeat' first|(apply z05;first|refine z0n ?_| (apply z0a;refine z02 z16 rfl rfl ?_)|(apply z0c;refine z02 z0i rfl rfl ?_)|(apply z0s;refine z02 (z0w rfl) rfl rfl ?_)|(apply z18;refine z0b z1m ?_))|(apply z06;first|refine z0m ?_|apply z09)|(apply z07;first|apply z08|apply z00|apply z04|apply z01|refine z0h (fun _=>?_) fun _=>?_)
 all_goals try first|exact z0e func114 _ z2s ⟨_,rfl,⟨_,_,rfl⟩,rfl⟩|omega|(exfalso;simp_all;done)
 all_goals
  refine z0r ?_
  refine z0d (z1o (fun k1:Nat=>⟨48,[(1,PV.ptr (0,1) 0),(14,PV.d (D.slice (List.map (fun t=>[strs t]) c.tokens))),(15,I IntKind.i64 (↑c.tokens.length:Int)),(16,I .i64 (k1:Nat))],[(1,Blk.box (List.map PV.d c.cs))],H⟩) (fun k1:Nat=>k1≤c.tokens.length) (fun k1:Nat=>c.tokens.length-k1) ?_ 0 (zAf _)) rfl rfl
  intro k1 hk1 ih1
  by_cases hlt1:k1<c.tokens.length
  case pos =>
   obtain⟨x1,hx1⟩:∃x,c.tokens[k1]? =some x:=⟨_,zA0 (by omega)⟩
   have hp1:=hc.tok x1 (zA2 hx1)
   repeat' first|(apply z05;first|refine z0n ?_| (apply z0a;first|refine z02 z16 rfl rfl ?_| refine z02 z2f rfl rfl ?_)|(apply z0c;refine z02 z0i rfl rfl ?_)|(apply z0k;refine z02 (z1a rfl (idx hx1)) rfl rfl ?_)|(apply z0s;refine z02 (z0w rfl) rfl rfl ?_))|(apply z06;first|refine z0m ?_|apply z09)|(apply z07;first|apply z08|apply z00|apply z04|apply z01|refine z0h (fun _=>?_) (fun _=>?_)| refine z38 rfl (fun _=>?_) (fun _=>?_)|refine z0o ?_)
   all_goals try first|exact z0e func114 _ z2s ⟨_,rfl,⟨_,_,rfl⟩,rfl⟩|exact z0d (ih1 (k1+1) (by omega) (by omega)) rfl rfl|omega|(exfalso;simp_all;done)
   all_goals
    refine z0r ?_
    refine z0d (z1o (fun k2:Nat=>⟨48,[(1,PV.ptr (0,1) 0),(4,I IntKind.i64 (↑k1:Int)),(5,PV.d (strs x1)),(14,PV.d (D.slice (List.map (fun t=>[strs t]) c.tokens))),(15,I IntKind.i64 (↑c.tokens.length:Int)),(16,I IntKind.i64 (↑k1:Int)),(28,PV.d (strs x1)),(29,I IntKind.i64 (↑x1.length:Int)),(30,I .i64 (k2:Nat))],[(1,Blk.box (List.map PV.d c.cs))],H⟩) (fun k2:Nat=>k2≤x1.length) (fun k2:Nat=>x1.length-k2) ?_ 0 (zAf _)) rfl rfl
    intro k2 hk2 ih2
    by_cases hlt2:k2<x1.length
    case pos =>
     obtain⟨x2,hx2⟩:∃x,x1[k2]? =some x:=⟨_,zA0 (by omega)⟩
     have hv2:=hp1.2 x2 (zA2 hx2)
     obtain⟨y2,hy2⟩:∃x,c.attrs[k2]? =some x:=⟨_,zA0 (by omega)⟩
     repeat' first|(apply z05;first|refine z0n ?_| (apply z0a;first|refine z02 z16 rfl rfl ?_| refine z02 z2f rfl rfl ?_| refine z02 z1w rfl rfl ?_)|(apply z0c;refine z02 z0i rfl rfl ?_)|(apply z0k;first|refine z02 (z1a rfl (idx hx2)) rfl rfl ?_| refine z02 (z1a rfl (idx hy2)) rfl rfl ?_)|(apply z0t;refine z02 (z0z z1h) rfl rfl ?_)|(apply z0j;refine z8h (y0p _ _ hv2) rfl (by decide) (fun p hp=>?_);obtain⟨_,rfl⟩:=hp))|(apply z06;first|refine z0m ?_|apply z09)|(apply z07;first|apply z08|apply z00|apply z04|apply z01|apply z03|refine z0h (fun _=>?_) (fun _=>?_)| refine z38 rfl (fun _=>?_) (fun _=>?_)|refine z0o ?_)
     all_goals try first|exact z0e func114 _ z2s ⟨_,rfl,⟨_,_,rfl⟩,rfl⟩|exact z0d (ih2 (k2+1) (by omega) (by omega)) rfl rfl|exact z0d (ih1 (k1+1) (by omega) (by omega)) rfl rfl|omega|(exfalso;simp_all;done)
    case neg =>
     repeat' first|(apply z05;first|refine z0n ?_| (apply z0t;refine z02 (z0z z1h) rfl rfl ?_))|(apply z06;first|refine z0m ?_|apply z09)|(apply z07;first|apply z08|apply z00|apply z04|apply z01|apply z03|refine z0h (fun _=>?_) (fun _=>?_)| refine z0o ?_)
     all_goals try first|exact z0e func114 _ z2s ⟨_,rfl,⟨_,_,rfl⟩,rfl⟩|exact z0d (ih1 (k1+1) (by omega) (by omega)) rfl rfl|omega|(exfalso;simp_all;done)
  case neg =>
   repeat' first|(apply z05;refine z0n ?_)|(apply z06;first|refine z0m ?_|apply z09)|(apply z07;first|apply z08|apply z00|apply z04|apply z01|refine z0h (fun _=>?_) (fun _=>?_)| refine z0o ?_)
   all_goals try first|exact z0e func114 _ z2s ⟨_,rfl,⟨_,_,rfl⟩,rfl⟩|omega|(exfalso;simp_all;done)
theorem zzy(c:z10)(hc:Small c):NF prog 115 [c.d] y14:=by
 refine z5u fun H=>?_
 refine z0g func115 (by kernel_rfl) rfl (by simp) ?_
 dsimp only[f115]
 have h1:=hc.toks
 have h2:=hc.ntexts
 repeat' first|(apply z05;first|refine z0n ?_| (apply z0a;refine z02 z16 rfl rfl ?_)|(apply z0c;refine z02 z0i rfl rfl ?_)|(apply z0t;refine z02 (zwy rfl) rfl rfl ?_)|(apply z0s;refine z02 (z0w rfl) rfl rfl ?_)|(apply z18;refine z0b z1m ?_))|(apply z06;first|refine z0m ?_|apply z09)|(apply z07;first|apply z08|apply z00|apply z04|apply z01|refine z0h (fun _=>?_) (fun _=>?_)| refine z38 rfl (fun _=>?_) fun _=>?_)
 all_goals try first|exact z0e func115 _ z2s ⟨_,rfl,⟨_,_,rfl⟩,rfl⟩|omega|(exfalso;simp_all;done)
 all_goals
  refine z0r ?_
  refine z0d (z1o (fun q:Nat × Int=>⟨96,[(1,PV.ptr (0,1) 0),(4,I IntKind.i64 (↑c.tokens.length:Int)),(5,I .i64 q.2),(26,PV.d (D.slice (List.map Text.cs c.texts))),(27,I IntKind.i64 (↑c.texts.length:Int)),(28,I .i64 (q.1:Nat))],[(1,Blk.box (List.map PV.d c.cs))],H⟩) (fun q:Nat × Int=>q.1≤c.texts.length) (fun q:Nat × Int=>c.texts.length-q.1) ?_ ⟨0,_⟩ (zAf _)) rfl rfl
  intro⟨k1,m1_5⟩ hk1 ih1
  simp only at hk1 ih1⊢
  by_cases hlt1:k1<c.texts.length
  case pos =>
   obtain⟨x1,hx1⟩:∃x,c.texts[k1]? =some x:=⟨_,zA0 (by omega)⟩
   have hp1:=hc.text x1 (zA2 hx1)
   have hn1:=hp1.1
   repeat' first|(apply z05;first|refine z0n ?_| (apply z0a;first|refine z02 z16 rfl rfl ?_| refine z02 z1w rfl rfl ?_)|(apply z0c;refine z02 z0i rfl rfl ?_)|(apply z0k;refine z02 (z1a rfl (idx hx1)) rfl rfl ?_)|(apply zc0;refine z02 (z7v rfl (by omega) (by omega) fun _=>rfl) rfl rfl ?_)|(apply z0s;refine z02 (z0w rfl) rfl rfl ?_)|(apply z0j;refine z8h (z5t _ (by omega)) rfl (by decide) (fun p hp=>?_);obtain⟨_,rfl⟩:=hp)|(apply z0f;refine z25 ?_)|(apply z0l;refine z0b z2e ?_))|(apply z06;first|refine z0m ?_|apply z09)|(apply z07;first|apply z08|apply z00|apply z04|apply z01|refine z0h (fun _=>?_) (fun _=>?_)| refine z2q rfl (fun _=>?_) (fun _=>?_)|refine z0o ?_)
   all_goals try first|exact z0e func115 _ z2s ⟨_,rfl,⟨_,_,rfl⟩,rfl⟩|exact z0d (ih1 ⟨k1+1,_⟩ (by omega) (by omega)) rfl rfl|omega|(exfalso;simp_all;done)
   all_goals
    refine z0r ?_
    refine z0d (z1o (fun k2:Nat=>⟨96,[(1,PV.ptr (0,1) 0),(4,I IntKind.i64 (↑c.tokens.length:Int)),(5,I IntKind.i64 m1_5),(6,I IntKind.i64 (↑k1:Int)),(7,PV.ptr (0,7) 0),(26,PV.d (D.slice (List.map Text.cs c.texts))),(27,I IntKind.i64 (↑c.texts.length:Int)),(28,I IntKind.i64 (↑k1:Int)),(41,PV.d (D.slice (List.map Text.cs (List.take (↑k1:Int).toNat c.texts)))),(42,I IntKind.i64 (↑(List.take (↑k1:Int).toNat c.texts).length:Int)),(43,I .i64 (k2:Nat))],[(1,Blk.box (List.map PV.d c.cs)),(7,Blk.box (z1b (z5q ({ size:=4,bytes:=56,kind:=TK.struct,fields:=[(0,1),(1,1),(2,1),(3,1)],zero:=[Value.string { data:=#[] },Value.int IntKind.i64 0,Value.int IntKind.i64 0,z1t] }:TI).zero) 0 (List.map PV.d x1.cs)))],H⟩) (fun k2:Nat=>k2≤(List.take (↑k1:Int).toNat c.texts).length) (fun k2:Nat=>(List.take (↑k1:Int).toNat c.texts).length-k2) ?_ 0 (zAf _)) rfl rfl
    intro k2 hk2 ih2
    by_cases hlt2:k2<(List.take (↑k1:Int).toNat c.texts).length
    case pos =>
     have hl2:(List.take (↑k1:Int).toNat c.texts).length≤_:=List.length_take_le _ _
     obtain⟨x2,hx2⟩:∃x,(List.take (↑k1:Int).toNat c.texts)[k2]? =some x:=⟨_,zA0 (by first|omega|(simp;omega))⟩
     repeat' first|(apply z05;first|refine z0n ?_| (apply z0a;first|refine z02 z16 rfl rfl ?_| refine z02 z1w rfl rfl ?_)|(apply z0c;refine z02 z0i rfl rfl ?_)|(apply z0k;refine z02 (z1a rfl (idx hx2)) rfl rfl ?_)|(apply z0t;first|refine z02 (z0z z1h) rfl rfl ?_| refine z02 (z2l z1h) rfl rfl ?_)|(apply z0s;refine z02 (z0w rfl) rfl rfl ?_)|(apply z0j;refine z8h (zk9 _ hp1.2.1) rfl (by decide) (fun p hp=>?_);obtain⟨_,rfl⟩:=hp)|(apply z0f;refine z25 ?_)|(apply z0l;refine z0b z2e ?_))|(apply z06;first|refine z0m ?_|apply z09|refine z1g ?_| refine z7t rfl rfl (by decide) ?_|refine z1p (fun _=>?_) (fun _=>?_)| refine z39 rfl rfl (fun _=>?_) fun _=>?_)|(apply z07;first|apply z08|apply z00|refine z1j ?_| refine z15 ?_| apply z04|apply z01|apply z03|refine z0h (fun _=>?_) (fun _=>?_)| refine z38 rfl (fun _=>?_) (fun _=>?_)|refine z0o ?_)
     all_goals try first|exact z0e func115 _ z2s ⟨_,rfl,⟨_,_,rfl⟩,rfl⟩|exact z0d (ih2 (k2+1) (by omega) (by omega)) rfl rfl|exact z0d (ih1 ⟨k1+1,_⟩ (by omega) (by omega)) rfl rfl|omega|(exfalso;simp_all;done)
    case neg =>
     repeat' first|(apply z05;first|refine z0n ?_| (apply z0a;refine z02 z16 rfl rfl ?_)|(apply z0c;refine z02 z0i rfl rfl ?_)|(apply z0t;first|refine z02 (z0z z1h) rfl rfl ?_| refine z02 (z2l z1h) rfl rfl ?_)|(apply z0s;refine z02 (z0w rfl) rfl rfl ?_)|(apply z0j;refine z8h (zk9 _ hp1.2.1) rfl (by decide) (fun p hp=>?_);obtain⟨_,rfl⟩:=hp))|(apply z06;first|refine z0m ?_|apply z09|refine z1g ?_| refine z7t rfl rfl (by decide) ?_|refine z1p (fun _=>?_) (fun _=>?_)| refine z39 rfl rfl (fun _=>?_) fun _=>?_)|(apply z07;first|apply z08|apply z00|refine z1j ?_| refine z15 ?_| apply z04|apply z01|apply z03|refine z0h (fun _=>?_) (fun _=>?_)| refine z38 rfl (fun _=>?_) (fun _=>?_)|refine z0o ?_)
     all_goals try first|exact z0e func115 _ z2s ⟨_,rfl,⟨_,_,rfl⟩,rfl⟩|exact z0d (ih1 ⟨k1+1,_⟩ (by omega) (by omega)) rfl rfl|omega|(exfalso;simp_all;done)
  case neg =>
   repeat' first|(apply z05;refine z0n ?_)|(apply z06;first|refine z0m ?_|apply z09)|(apply z07;first|apply z08|apply z00|apply z04|apply z01|refine z0h (fun _=>?_) (fun _=>?_)| refine z0o ?_)
   all_goals try first|exact z0e func115 _ z2s ⟨_,rfl,⟨_,_,rfl⟩,rfl⟩|omega|(exfalso;simp_all;done)
theorem y39{x y:Operand}{a b:Attr}(w:World)(own:Nat→Prop)(us vs:List Value)(hu:DR w own (.agg a.cs) (.agg us.toArray))(hv:DR w own (.agg b.cs) (.agg vs.toArray)) :
 (do eqGuard .neq 79 x y (.agg us.toArray) (.agg vs.toArray);binOp .neq 79 (.agg us.toArray) (.agg vs.toArray):Sem Value).run prog w=.ok (.bool (!(decide (a.name=b.name)&&decide (a.set=b.set)))) w:=by
 have e1:=DR.lits (xs:=[.string a.name,.bool a.set]) hu
 have e2:=DR.lits (xs:=[.string b.name,.bool b.set]) hv
 subst e1 e2
 have hf:(prog.fieldsOf 79).toList.map (fun f=>(f.name == "_",f.type,f.offset))=[(false,9,0),(false,4,1)]:=by kernel_rfl
 have hu:prog.underlying 79=some (.struct (prog.fieldsOf 79)):=by kernel_rfl
 have hs:prog.stoodInHeld 79=false:=by kernel_rfl
 have hg:prog.eqGuardType prog.depth 79=false:=by kernel_rfl
 have hstr:prog.underlying 9=some .string:=T9.str rfl
 have hbool:prog.underlying 4=some .bool:=T4.bool rfl
 have ha9:∀w,(isAgg 9).run prog w=.ok false w:=fun w=>T9.isAgg w
 have ha4:∀w,(isAgg 4).run prog w=.ok false w:=fun w=>T4.isAgg w
 rw[Sem.run_bind,run_eqGuard_agg _ _ _ _ _ _ _ hg,Result.andThen_ok,run_neq_struct,run_equalIn_struct w 9999 79 _ _ hu hs]
 generalize (prog.fieldsOf 79).toList=fs at hf
 obtain⟨f1,f2,rfl⟩:∃f1 f2,fs=[f1,f2]:=by
  have hl:=congrArg List.length hf
  simp only[zA4,zAk,List.length_nil]at hl
  match fs,hl with
  | [a,b],_=>exact⟨a,b,rfl⟩
 ·simp only[List.map_cons,List.map_nil,List.cons.injEq,Prod.mk.injEq,beq_eq_false_iff_ne,ne_eq,and_true]at hf
  obtain⟨⟨n1,t1,o1⟩,n2,t2,o2⟩:=hf
  simp only[Op.eqFields,n1,n2,ne_eq,not_false_eq_true,if_true,t1,t2,o1,o2,part,Sem.run_bind,ha9,Result.andThen_ok,Bool.false_eq_true,if_false]
  by_cases h1:a.name=b.name
  ·by_cases h2:a.set=b.set <;> simp[run_equalIn_string _ _ _ _ _ hstr,run_equalIn_bool' _ _ _ _ _ hbool,h1,h2]
  ·have h3:(a.name.toList == b.name.toList)=false:=by rw[toList_eq];simp[h1]
   simp[run_equalIn_string _ _ _ _ _ hstr,h3,h1]
def zam(c:z10):List Int:=if 0<c.heads.length then c.heads else List.replicate c.tokens.length (-1)
def zhn(c:z10):List Str:=if 0<c.heads.length then c.rels else List.replicate c.tokens.length ⟨#[]⟩
theorem zz0{α:Type}{a b:α}{n k:Nat}(h:k<n):(List.replicate k a++List.replicate (n-k) b)[((k:Nat):Int).toNat]? =some b:=by
 rw[zA9,zAg (by simp),zAr,Nat.sub_self,List.getElem?_replicate,zAz (by omega)]
theorem zyo{α:Type}{a b:α}{n k:Nat}(h:k<n):(List.replicate k a++List.replicate (n-k) b).set ((k:Nat):Int).toNat a=List.replicate (k+1) a++List.replicate (n-(k+1)) b:=by
 obtain⟨m,rfl⟩:∃m,n=k+(m+1):=⟨n-k-1,by omega⟩
 rw[zA9,show k+(m+1)-k=m+1 by omega,show k+(m+1)-(k+1)=m by omega,List.set_append_right _ _ (by simp),zAr,Nat.sub_self,List.replicate_succ,List.set_cons_zero,List.replicate_succ' (n:=k)]
 simp
theorem zc1{α β:Type}(g:α→β):∀(l:List α) (n:Nat) (p:List α),z1b (l.map g) n (p.map g)=(z1b l n p).map g
 | l,n,[]=>by cases l <;> cases n <;> rfl
 | [],n,p::ps=>by cases n <;> rfl
 | x::l,0,p::ps=>by simp[z1b,zc1 g l 0 ps]
 | x::l,n+1,p::ps=>by
  have:=zc1 g l n (p::ps)
  simp only[List.map_cons]at this
  simp[z1b,this]
theorem ztf{α:Type}(m:List α)(z x:α)(k:Nat)(hk:k≤m.length):(z1b (m++[z]) (k+1) (((m++[z]).drop k).take (m.length-k))).set k x=m.take k++x::m.drop k:=by
 apply List.ext_getElem?
 intro j
 have hl:(((m++[z]).drop k).take (m.length-k)).length=m.length-k:=by simp;omega
 by_cases hj:j=k
 ·subst hj
  rw[zAp (by rw[z1l];simp;omega),zAg (by simp;omega)]
  simp[zAm,Nat.min_eq_left hk]
 ·rw[List.getElem?_set_ne (Ne.symm hj),z34 _ _ _ (by rw[hl];simp;omega),hl]
  by_cases h1:j<k
  ·have hR:(m.take k++x::m.drop k)[j]? =m[j]?:=by rw[zAb (by simp;omega),List.getElem?_take,zAz h1]
   rw[zAy (by omega),hR,zAb (by omega)]
  ·have hR:(m.take k++x::m.drop k)[j]? =m[j-1]?:=by
    rw[zAg (by simp;omega)]
    have e:j-(m.take k).length=(j-k-1)+1:=by simp;omega
    rw[e,List.getElem?_cons_succ,List.getElem?_drop]
    congr 1;omega
   rw[hR]
   by_cases h2:j<k+1+(m.length-k)
   ·rw[zAz ⟨by omega,h2⟩,List.getElem?_take,zAz (by omega),List.getElem?_drop,zAb (by omega)]
    congr 1;omega
   ·rw[zAy (by omega),zAv (by simp;omega),zAv (by omega)]
def y3w(l:List Region)(p:PV):Prop:=∃m:List Region,(m.length=l.length∧∀x∈m,x∈l)∧p=.d (.slice (m.map Region.cs))
set_option maxHeartbeats 4000000
theorem y0k(c:z10)(hc:Small c):NF prog 118 [c.d] y14:=by
 refine z5u fun H=>?_
 refine z0g func118 (by kernel_rfl) rfl (by simp) ?_
 dsimp only[f118]
 have h1:=hc.toks
 have h2:=hc.nheads
 have h3:=hc.nrels
 repeat' first|(apply z05;first|refine z0n ?_| (apply z0a;refine z02 z16 rfl rfl ?_)|(apply z0c;refine z02 z0i rfl rfl ?_)|(apply z0s;refine z02 (z0w rfl) rfl rfl ?_)|(apply z0j;refine z8h (y41 _ _ (by omega) (by omega)) rfl (by decide) (fun p hp=>?_);obtain⟨_,rfl⟩:=hp)|(apply z18;refine z0b z1m ?_))|(apply z06;first|refine z0m ?_|apply z09|refine z1g ?_| refine z7t rfl rfl (by decide) ?_|refine z1p (fun _=>?_) (fun _=>?_)| refine z39 rfl rfl (fun _=>?_) fun _=>?_)|(apply z07;first|apply z08|apply z00|refine z1j ?_| refine z15 ?_| apply z04|apply z01|refine z38 rfl (fun _=>?_) (fun _=>?_)|refine z2q rfl (fun _=>?_) fun _=>?_)
 all_goals try first|exact z0e func118 _ z2s ⟨_,rfl,⟨_,_,rfl⟩,rfl⟩|omega|(exfalso;simp_all;done)
 all_goals
  refine z0r ?_
  refine z0d (z1o (fun k1:Nat=>⟨86,[(1,PV.ptr (0,1) 0),(4,I IntKind.i64 (↑c.heads.length:Int)),(36,PV.d (ints c.heads)),(37,I IntKind.i64 (↑c.heads.length:Int)),(38,I .i64 (k1:Nat))],[(1,Blk.box (List.map PV.d c.cs))],H⟩) (fun k1:Nat=>k1≤c.heads.length) (fun k1:Nat=>c.heads.length-k1) ?_ 0 (zAf _)) rfl rfl
  intro k1 hk1 ih1
  by_cases hlt1:k1<c.heads.length
  case pos =>
   obtain⟨x1,hx1⟩:∃x,c.heads[k1]? =some x:=⟨_,zA0 (by omega)⟩
   obtain⟨y1,hy1⟩:∃x,c.rels[k1]? =some x:=⟨_,zA0 (by omega)⟩
   have hv1:=hc.rel y1 (zA2 hy1)
   repeat' first|(apply z05;first|refine z0n ?_| (apply z0a;first|refine z02 z16 rfl rfl ?_| refine z02 z2f rfl rfl ?_)|(apply z0c;refine z02 z0i rfl rfl ?_)|(apply z0k;first|refine z02 (z1a rfl (idx hx1)) rfl rfl ?_| refine z02 (z1a rfl (idx hy1)) rfl rfl ?_)|(apply z0t;refine z02 (z0z z1h) rfl rfl ?_)|(apply z0j;first|(refine z8h (z5t _ hv1) rfl (by decide) (fun p hp=>?_);obtain⟨_,rfl⟩:=hp)|(refine z8h (zvi _ _ (by omega) (by omega) (by omega)) rfl (by decide) (fun p hp=>?_);obtain⟨_,rfl⟩:=hp)))|(apply z06;first|refine z0m ?_|apply z09|refine z1g ?_| refine z39 rfl rfl (fun _=>?_) fun _=>?_)|(apply z07;first|apply z08|apply z00|refine z1j ?_| refine z15 ?_| apply z04|apply z01|apply z2o|apply z03|refine z0h (fun _=>?_) (fun _=>?_)| refine z38 rfl (fun _=>?_) (fun _=>?_)|refine z2q rfl (fun _=>?_) (fun _=>?_)|refine z0o ?_)|(apply z2m;first|(apply z1e;refine z2c mix ?_)|refine z6d rfl rfl (by decide) ?_|refine z86 rfl rfl (by decide) ?_|refine z2w ?_| (apply z0v;refine z0x z1r rfl rfl ?_)|(apply z1s;refine z5b (za2 (zsx _ _ hc)) ?_)|(refine z4h rfl rfl (fun hg=>?_) (fun hg=>?_) <;> simp only[hg] <;> (try simp only[zA3,zA5,zA6,zA8]at hg)))
   all_goals try first|exact z0e func118 _ z2s ⟨_,rfl,⟨_,_,rfl⟩,rfl⟩|exact z0d (ih1 (k1+1) (by omega) (by omega)) rfl rfl|omega|(exfalso;simp_all;done)
  case neg =>
   repeat' first|(apply z05;refine z0n ?_)|(apply z06;first|refine z0m ?_|apply z09)|(apply z07;first|apply z08|apply z00|apply z04|apply z01|refine z0h (fun _=>?_) (fun _=>?_)| refine z0o ?_)
   all_goals try first|exact z0e func118 _ z2s ⟨_,rfl,⟨_,_,rfl⟩,rfl⟩|omega|(exfalso;simp_all;done)
theorem zju(a b:List Attr)(ha:a.length≤1000000)(hb:b.length≤1000000):NF prog 54 [.d (.slice (a.map Attr.cs)),.d (.slice (b.map Attr.cs))] IsB:=by
 refine z5u fun H=>?_
 refine z0g func54 (by kernel_rfl) rfl (by simp) ?_
 dsimp only[f54]
 repeat' first|(apply z05;first|refine z0n ?_| (apply z0s;refine z02 (z0w rfl) rfl rfl ?_))|(apply z06;first|refine z0m ?_|(apply z3n;refine z3o [0,1,4,5,10,12,13,14,24,100500,100501] (by repeat' (first|exact z2n.nil|apply z2n.yes rfl|apply z2n.no)) (by repeat' (first|exact z13.nil|apply z13.old rfl|apply z13.gone|apply z13.new rfl)) ?_))|(apply z07;first|apply z08|apply z00|apply z04|apply z01|refine z38 rfl (fun _=>?_) fun _=>?_)
 all_goals try first|exact z0e func54 _ z0p ⟨_,rfl,⟨_,rfl⟩,rfl⟩|omega|(exfalso;simp_all;done)
 all_goals
  refine z0r ?_
  refine z0d (z1o (fun k1:Nat=>⟨26,[(0,PV.lift 1 (PV.d (D.slice (List.map Attr.cs a)))),(1,PV.lift 1 (PV.d (D.slice (List.map Attr.cs b)))),(12,I IntKind.i64 (↑a.length:Int)),(13,I .i64 (k1:Nat))],[],H⟩) (fun k1:Nat=>k1≤a.length) (fun k1:Nat=>a.length-k1) ?_ 0 (zAf _)) rfl rfl
  intro k1 hk1 ih1
  by_cases hlt1:k1<a.length
  case pos =>
   obtain⟨x1,hx1⟩:∃x,a[k1]? =some x:=⟨_,zA0 (by omega)⟩
   obtain⟨y1,hy1⟩:∃x,b[k1]? =some x:=⟨_,zA0 (by omega)⟩
   repeat' first|(apply z05;first|refine z0n ?_| (apply z0t;refine z02 (z0z z1h) rfl rfl ?_))|(apply z06;first|refine z0m ?_|(apply z3n;refine z3o [0,1,4,5,10,12,13,14,24,100500,100501] (by repeat' (first|exact z2n.nil|apply z2n.yes rfl|apply z2n.no)) (by repeat' (first|exact z13.nil|apply z13.old rfl|apply z13.gone|apply z13.new rfl)) ?_))|(apply z07;first|apply z08|apply z00|apply z04|apply z01|apply z2o|apply z03|refine z0h (fun _=>?_) (fun _=>?_)| refine z2q rfl (fun _=>?_) (fun _=>?_)|refine z0o ?_)|(apply z2m;first|(apply z1e;refine z97 [0,1,4,5,10,12,13,14,24,100500,100501] mix (by kernel_rfl) (by repeat' (first|exact z2n.nil|apply z2n.yes rfl|apply z2n.no)) (by repeat' (first|exact z13.nil|apply z13.old rfl|apply z13.gone|apply z13.new rfl)) ?_)|refine z2w ?_| (apply z0v;refine z0x z1w rfl rfl ?_)|(apply z1i;first|refine z0x (z1a rfl (idx hx1)) rfl rfl ?_| refine z0x (z1a rfl (idx hy1)) rfl rfl ?_)|(apply z3p;refine z0x (y60 (op:=.neq) (tx:=79) y39) rfl rfl ?_))
   all_goals try first|exact z0e func54 _ z0p ⟨_,rfl,⟨_,rfl⟩,rfl⟩|exact z0d (ih1 (k1+1) (by omega) (by omega)) rfl rfl|omega|(exfalso;simp_all;done)
  case neg =>
   repeat' first|(apply z05;refine z0n ?_)|(apply z06;first|refine z0m ?_|(apply z3n;refine z3o [0,1,4,5,10,12,13,14,24,100500,100501] (by repeat' (first|exact z2n.nil|apply z2n.yes rfl|apply z2n.no)) (by repeat' (first|exact z13.nil|apply z13.old rfl|apply z13.gone|apply z13.new rfl)) ?_))|(apply z07;first|apply z08|apply z00|apply z04|apply z01|apply z2o|refine z0h (fun _=>?_) (fun _=>?_)| refine z0o ?_)|(apply z2m;refine z2w ?_)
   all_goals try first|exact z0e func54 _ z0p ⟨_,rfl,⟨_,rfl⟩,rfl⟩|omega|(exfalso;simp_all;done)
theorem z9d(c:z10)(hc:Small c):NF prog 56 [c.d] (fun p=>p=.tup [.d (ints (zam c)),.d (strs (zhn c))]):=by
 refine z5u fun H=>?_
 refine z0g func56 (by kernel_rfl) rfl (by simp) ?_
 dsimp only[f56]
 have h1:=hc.toks
 have hrl:(List.replicate c.tokens.length (0:Int)).length=c.tokens.length:=by simp
 repeat' first|(apply z05;first|refine z0n ?_| (apply z0a;refine z02 z16 rfl rfl ?_)|(apply z0c;refine z02 z0i rfl rfl ?_)|(apply z0s;first|refine z02 (z0w rfl) rfl rfl ?_| refine z02 (z47 rfl) rfl rfl ?_)|(apply z18;refine z0b z1m ?_)|(apply zpm;refine zoy (xs:=(List.replicate c.tokens.length (0:Int)).map fun x=>[z2g x]) rfl rfl (by omega) (by omega) rfl rfl rfl (by decide) (by simp) ?_))|(apply z06;first|refine z0m ?_|apply z09)|(apply z07;first|apply z08|apply z00|apply z04|apply z01|apply z2o|refine z0h (fun _=>?_) fun _=>?_)|(apply z2m;first|(apply z1e;refine z2c mix ?_)|refine z2w ?_| (apply z0v;refine z0x z16 rfl rfl ?_)|(apply z0u;refine z0x z0i rfl rfl ?_))
 all_goals try first|(first|(refine z0e func56 _ z2s ⟨_,rfl,?_,rfl⟩;have e0:0<c.heads.length:=(by omega);simp only[zam,zhn,zAz e0])|(obtain rfl:k1=c.tokens.length:=(by omega);refine z1f 17 rfl ?_;refine z1f 31 rfl ?_;refine z0e func56 _ z2s ⟨_,rfl,?_,rfl⟩;have e0:¬0<c.heads.length:=(by omega);simp[zam,zhn,zAy e0,ints,strs]))|omega|(exfalso;simp_all;done)
 all_goals
  refine z0r ?_
  refine z0d (z1o (fun k1:Nat=>⟨32,[(1,PV.ptr (0,1) 0),(4,PV.ref (0,17)),(19,I IntKind.i64 (↑(List.replicate c.tokens.length 0).length:Int)),(20,I .i64 (k1:Nat))],[(1,Blk.box (List.map PV.d c.cs)),(17,.row 3 1 ((List.replicate k1 (-1)++List.replicate (c.tokens.length-k1) (0:Int)).map fun x=>[z2g x]))],H⟩) (fun k1:Nat=>k1≤c.tokens.length) (fun k1:Nat=>c.tokens.length-k1) ?_ 0 (zAf _)) rfl rfl
  intro k1 hk1 ih1
  by_cases hlt1:k1<c.tokens.length
  case pos =>
   have hz1:=zz0 (a:=(-1:Int)) (b:=0) hlt1
   repeat' first|(apply z05;first|refine z0n ?_| (apply z0k;refine z02 (z4r rfl (by simp;omega)) rfl rfl ?_)|(apply z0t;refine z02 (z0z z1h) rfl rfl ?_)|(apply z0f;refine z22 (-1) (by rfl) (by rfl) (by rfl) (by rfl) hz1 (by rfl) (by rfl) (by rfl) (zyo hlt1) ?_))|(apply z06;first|refine z0m ?_|apply z09)|(apply z07;first|apply z08|apply z00|apply z04|apply z01|apply z2o|apply z03|refine z0h (fun _=>?_) (fun _=>?_)| refine z0o ?_)|(apply z2m;first|(apply z1e;refine z2c mix ?_)|refine z2w ?_| (apply z0v;refine z0x z16 rfl rfl ?_)|(apply z0u;refine z0x z0i rfl rfl ?_)|(apply z3v;refine z0x (z0w rfl) rfl rfl ?_)|(apply zk8;refine zmg (xs:=(List.replicate c.tokens.length (⟨#[]⟩:Str)).map fun x=>[z6o x]) (by first|exact rfl|exact⟨_,rfl,rfl,rfl⟩) rfl rfl (by omega) (by omega) rfl rfl rfl (by decide) (by simp) ?_))
   all_goals try first|(first|(refine z0e func56 _ z2s ⟨_,rfl,?_,rfl⟩;have e0:0<c.heads.length:=(by omega);simp only[zam,zhn,zAz e0])|(obtain rfl:k1=c.tokens.length:=(by omega);refine z1f 17 rfl ?_;refine z1f 31 rfl ?_;refine z0e func56 _ z2s ⟨_,rfl,?_,rfl⟩;have e0:¬0<c.heads.length:=(by omega);simp[zam,zhn,zAy e0,ints,strs]))|exact z0d (ih1 (k1+1) (by omega) (by omega)) rfl rfl|omega|(exfalso;simp_all;done)
  case neg =>
   repeat' first|(apply z05;refine z0n ?_)|(apply z06;first|refine z0m ?_|apply z09)|(apply z07;first|apply z08|apply z00|apply z04|apply z01|apply z2o|refine z0h (fun _=>?_) (fun _=>?_)| refine z0o ?_)|(apply z2m;first|(apply z1e;refine z2c mix ?_)|refine z2w ?_| (apply z0v;refine z0x z16 rfl rfl ?_)|(apply z0u;refine z0x z0i rfl rfl ?_)|(apply z3v;refine z0x (z0w rfl) rfl rfl ?_)|(apply zk8;refine zmg (xs:=(List.replicate c.tokens.length (⟨#[]⟩:Str)).map fun x=>[z6o x]) (by first|exact rfl|exact⟨_,rfl,rfl,rfl⟩) rfl rfl (by omega) (by omega) rfl rfl rfl (by decide) (by simp) ?_))
   all_goals try first|(first|(refine z0e func56 _ z2s ⟨_,rfl,?_,rfl⟩;have e0:0<c.heads.length:=(by omega);simp only[zam,zhn,zAz e0])|(obtain rfl:k1=c.tokens.length:=(by omega);refine z1f 17 rfl ?_;refine z1f 31 rfl ?_;refine z0e func56 _ z2s ⟨_,rfl,?_,rfl⟩;have e0:¬0<c.heads.length:=(by omega);simp[zam,zhn,zAy e0,ints,strs]))|omega|(exfalso;simp_all;done)
theorem znf(l:List Region)(hl:l.length≤1000000)(hs:∀x∈l,SmP x.keys):NF prog 50 [.d (.slice (l.map Region.cs))] (y3w l):=by
 refine z5u fun H=>?_
 refine z0g func50 (by kernel_rfl) rfl (by simp) ?_
 dsimp only[f50]
 repeat' first|(apply z05;first|refine z5f (d:=3) rfl rfl rfl (by decide) ?_|refine z0n ?_| (apply z0s;refine z02 (z0w rfl) rfl rfl ?_))|(apply z06;first|refine z0m ?_|apply z09)|(apply z07;first|apply z08|apply z00|apply z01)
 all_goals try first|(refine z1f 3 rfl ?_;exact z0e func50 _ z0p ⟨_,rfl,⟨q1,⟨by omega,hk1.2.2⟩,rfl⟩,rfl⟩)|omega|(exfalso;simp_all;done)
 all_goals
  refine z0r ?_
  refine z0d (z1o (fun q:Nat × List Region=>⟨47,[(3,PV.ref (0,3)),(7,PV.lift 1 (PV.d (D.slice (List.map Region.cs l)))),(8,I IntKind.i64 (↑l.length:Int)),(9,I .i64 (q.1:Nat))],[(3,.row 84 4 (q.2.map Region.cs))],H⟩) (fun q:Nat × List Region=>q.1≤l.length∧q.2.length=q.1∧(∀x∈q.2,x∈l)) (fun q:Nat × List Region=>l.length-q.1) ?_ ⟨0,[]⟩ ⟨zAf _,rfl,by simp⟩) rfl rfl
  intro⟨k1,q1⟩ hk1 ih1
  simp only at hk1 ih1⊢
  by_cases hlt1:k1<l.length
  case pos =>
   obtain⟨x1,hx1⟩:∃x,l[k1]? =some x:=⟨_,zA0 (by omega)⟩
   have hkx:=hs x1 (zA2 hx1)
   repeat' first|(apply z05;first|refine z0n ?_| (apply z0a;refine z02 z1w rfl rfl ?_)|(apply z0k;refine z02 (z1a rfl (idx hx1)) rfl rfl ?_)|(apply z0s;refine z02 (z47 rfl) rfl rfl ?_)|(apply z0f;refine z25 ?_)|(apply z0l;refine z0b z2e ?_))|(apply z06;first|refine z0m ?_|apply z09)|(apply z07;first|apply z08|apply z00|apply z04|apply z01|refine z0h (fun _=>?_) (fun _=>?_)| refine z0o ?_)
   all_goals try first|(refine z1f 3 rfl ?_;exact z0e func50 _ z0p ⟨_,rfl,⟨q1,⟨by omega,hk1.2.2⟩,rfl⟩,rfl⟩)|(refine z4n 32 3 rfl rfl ?_;exact z0d (ih1 ⟨k1+1,q1.take m2_6.toNat++x1::q1.drop m2_6.toNat⟩ ⟨by omega,by simp;omega,fun y hy=>by simp only[zAt,zAc]at hy;rcases hy with hy|rfl|hy;exact hk1.2.2 y (List.mem_of_mem_take hy);exact zA2 hx1;exact hk1.2.2 y (List.mem_of_mem_drop hy)⟩ (by simp;omega)) rfl rfl)|omega|(exfalso;simp_all;done)
   all_goals
    refine z0r ?_
    refine z0d (z1o (fun m2_6:Int=>⟨47,[(3,PV.ref (0,3)),(5,PV.ptr (0,5) 0),(6,I .i64 m2_6),(7,PV.lift 1 (PV.d (D.slice (List.map Region.cs l)))),(8,I IntKind.i64 (↑l.length:Int)),(9,I IntKind.i64 (↑k1:Int))],[(5,Blk.box (z1b (z5q ({ size:=4,bytes:=56,kind:=TK.struct,fields:=[(0,1),(1,1),(2,1),(3,1)],zero:=[Value.string { data:=#[] },Value.int IntKind.i64 0,Value.int IntKind.i64 0,z1t] }:TI).zero) 0 (List.map PV.d x1.cs))),(3,Blk.row 84 4 (List.map Region.cs q1))],H⟩) (fun m2_6:Int=>0≤m2_6∧m2_6≤q1.length) (fun m2_6:Int=>m2_6.toNat) ?_ (q1.length:Int) (by omega)) rfl rfl
    intro m2_6 hk2 ih2
    have hq0:(q1++[(Region.mk ⟨#[]⟩ 0 0 [])]).length=q1.length+1:=by simp
    have hset:(z1b (q1++[(Region.mk ⟨#[]⟩ 0 0 [])]) (m2_6.toNat+1) (((q1++[(Region.mk ⟨#[]⟩ 0 0 [])]).drop m2_6.toNat).take (q1.length-m2_6.toNat))).set m2_6.toNat x1=q1.take m2_6.toNat++x1::q1.drop m2_6.toNat:=ztf q1 (Region.mk ⟨#[]⟩ 0 0 []) x1 m2_6.toNat (by omega)
    have hcp:z1b ((q1++[(Region.mk ⟨#[]⟩ 0 0 [])]).map Region.cs) (m2_6+1).toNat ((((q1++[(Region.mk ⟨#[]⟩ 0 0 [])]).map Region.cs).drop m2_6.toNat).take (q1.length-m2_6.toNat))=(z1b (q1++[(Region.mk ⟨#[]⟩ 0 0 [])]) (m2_6.toNat+1) (((q1++[(Region.mk ⟨#[]⟩ 0 0 [])]).drop m2_6.toNat).take (q1.length-m2_6.toNat))).map Region.cs:=by rw[←List.map_drop,←List.map_take,zc1,show(m2_6+1).toNat=m2_6.toNat+1 by omega]
    have hgt:∃v,(z1b (q1++[(Region.mk ⟨#[]⟩ 0 0 [])]) (m2_6.toNat+1) (((q1++[(Region.mk ⟨#[]⟩ 0 0 [])]).drop m2_6.toNat).take (q1.length-m2_6.toNat)))[m2_6.toNat]? =some v:=⟨_,zA0 (by rw[z1l];simp;omega)⟩
    obtain⟨vq,hgt⟩:=hgt
    by_cases hlt2:0<m2_6
    case pos =>
     obtain⟨y2,hy2⟩:∃x,q1[(m2_6-1).toNat]? =some x:=⟨_,zA0 (by omega)⟩
     have hky:=hs y2 (hk1.2.2 y2 (zA2 hy2))
     repeat' first|(apply z05;first|refine z0n ?_| (apply z0a;refine z02 z1y rfl rfl ?_)|(apply z0k;refine z02 (z4r rfl (by simp[z1l];omega)) rfl rfl ?_)|(apply z0t;first|refine z02 (z0z z1h) rfl rfl ?_| refine z02 (z2l z1h) rfl rfl ?_)|(apply z0s;refine z99 (Region.mk ⟨#[]⟩ 0 0 []) rfl ?_)|(apply z0f;refine z22 x1 (by rfl) (by rfl) (by rfl) (by rfl) hgt (by rfl) (by rfl) (by rfl) hset ?_)|(apply z1n;refine z2y ?_)|(apply z3c;refine z3b rfl ?_))|(apply z06;first|refine z0m ?_|apply z09)|(apply z07;first|apply z08|apply z00|refine z15 ?_| apply z04|apply z01|apply z2o|apply z03|refine z0h (fun _=>?_) (fun _=>?_)| refine z0o ?_)|(apply z2m;first|(apply z1e;refine z2c mix ?_)|refine z6d rfl rfl (by decide) ?_|refine z2w ?_| (apply z0v;first|refine z0x (zeo hy2 rfl rfl) rfl rfl ?_| refine z0x z1y rfl rfl ?_)|(apply z1i;refine z0x (z4r rfl (by simp[z1l];omega)) rfl rfl ?_)|(apply z3p;first|refine z0x (z0z z1h) rfl rfl ?_| refine z0x (z2l z1h) rfl rfl ?_)|(apply z7b;refine z0x (zi5 rfl (by omega) (by simp;omega) rfl) rfl rfl ?_)|(apply z3v;refine zei (by first|exact rfl|exact⟨_,rfl,rfl,rfl⟩) rfl rfl rfl rfl (by decide) (by simp;omega) (by simp;omega) (c:=q1.length-m2_6.toNat) (by simp;omega) hcp ?_)|(apply z1s;refine z5b (za2 (zlr _ _ hky hkx)) ?_)|(refine z4h rfl rfl (fun hg=>?_) (fun hg=>?_) <;> simp only[hg] <;> (try simp only[zA3,zA5,zA6,zA8]at hg)))
     all_goals try first|(refine z1f 3 rfl ?_;exact z0e func50 _ z0p ⟨_,rfl,⟨q1,⟨by omega,hk1.2.2⟩,rfl⟩,rfl⟩)|exact z0d (ih2 (m2_6-1) (by omega) (by omega)) rfl rfl|(refine z4n 32 3 rfl rfl ?_;exact z0d (ih1 ⟨k1+1,q1.take m2_6.toNat++x1::q1.drop m2_6.toNat⟩ ⟨by omega,by simp;omega,fun y hy=>by simp only[zAt,zAc]at hy;rcases hy with hy|rfl|hy;exact hk1.2.2 y (List.mem_of_mem_take hy);exact zA2 hx1;exact hk1.2.2 y (List.mem_of_mem_drop hy)⟩ (by simp;omega)) rfl rfl)|omega|(exfalso;simp_all;done)
    case neg =>
     repeat' first|(apply z05;first|refine z0n ?_| (apply z0a;refine z02 z1y rfl rfl ?_)|(apply z0k;refine z02 (z4r rfl (by simp[z1l];omega)) rfl rfl ?_)|(apply z0t;refine z02 (z0z z1h) rfl rfl ?_)|(apply z0s;refine z99 (Region.mk ⟨#[]⟩ 0 0 []) rfl ?_)|(apply z0f;refine z22 x1 (by rfl) (by rfl) (by rfl) (by rfl) hgt (by rfl) (by rfl) (by rfl) hset ?_)|(apply z1n;refine z2y ?_)|(apply z3c;refine z3b rfl ?_))|(apply z06;first|refine z0m ?_|apply z09)|(apply z07;first|apply z08|apply z00|refine z15 ?_| apply z2o|apply z03|refine z0o ?_)|(apply z2m;first|(apply z1e;refine z2c mix ?_)|refine z6d rfl rfl (by decide) ?_|refine z2w ?_| (apply z1i;refine z0x (z4r rfl (by simp[z1l];omega)) rfl rfl ?_)|(apply z3p;first|refine z0x (z0z z1h) rfl rfl ?_| refine z0x (z2l z1h) rfl rfl ?_)|(apply z7b;refine z0x (zi5 rfl (by omega) (by simp;omega) rfl) rfl rfl ?_)|(apply z3v;refine zei (by first|exact rfl|exact⟨_,rfl,rfl,rfl⟩) rfl rfl rfl rfl (by decide) (by simp;omega) (by simp;omega) (c:=q1.length-m2_6.toNat) (by simp;omega) hcp ?_)|(refine z4h rfl rfl (fun hg=>?_) (fun hg=>?_) <;> simp only[hg] <;> (try simp only[zA3,zA5,zA6,zA8]at hg)))
     all_goals try first|(refine z1f 3 rfl ?_;exact z0e func50 _ z0p ⟨_,rfl,⟨q1,⟨by omega,hk1.2.2⟩,rfl⟩,rfl⟩)|(refine z4n 32 3 rfl rfl ?_;exact z0d (ih1 ⟨k1+1,q1.take m2_6.toNat++x1::q1.drop m2_6.toNat⟩ ⟨by omega,by simp;omega,fun y hy=>by simp only[zAt,zAc]at hy;rcases hy with hy|rfl|hy;exact hk1.2.2 y (List.mem_of_mem_take hy);exact zA2 hx1;exact hk1.2.2 y (List.mem_of_mem_drop hy)⟩ (by simp;omega)) rfl rfl)|omega|(exfalso;simp_all;done)
  case neg =>
   repeat' first|(apply z05;refine z0n ?_)|(apply z06;first|refine z0m ?_|apply z09)|(apply z07;first|apply z08|apply z00|apply z04|apply z01|refine z0h (fun _=>?_) (fun _=>?_)| refine z0o ?_)
   all_goals try first|(refine z1f 3 rfl ?_;exact z0e func50 _ z0p ⟨_,rfl,⟨q1,⟨by omega,hk1.2.2⟩,rfl⟩,rfl⟩)|omega|(exfalso;simp_all;done)
theorem zp8(c:z10)(hc:Small c):NF prog 116 [c.d] y14:=by
 refine z5u fun H=>?_
 refine z0g func116 (by kernel_rfl) rfl (by simp) ?_
 dsimp only[f116]
 have h2:=hc.nregs
 repeat' first|(apply z05;first|refine z0n ?_| (apply z0a;refine z02 z16 rfl rfl ?_)|(apply z0c;refine z02 z0i rfl rfl ?_)|(apply z0s;refine z02 (z0w rfl) rfl rfl ?_)|(apply z18;refine z0b z1m ?_))|(apply z06;first|refine z0m ?_|(apply z3n;refine z3o [0,1,2,3,4,5,6,7,8,9,13,15,16,17,18,22,28,41,56,62,63,64,65,80,136,140,100500,100501] (by repeat' (first|exact z2n.nil|apply z2n.yes rfl|apply z2n.no)) (by repeat' (first|exact z13.nil|apply z13.old rfl|apply z13.gone|apply z13.new rfl)) ?_))|(apply z07;first|apply z08|apply z00|apply z04|apply z01|refine z0h (fun _=>?_) fun _=>?_)
 all_goals try first|exact z0e func116 _ z2s ⟨_,rfl,⟨_,_,rfl⟩,rfl⟩|((fail_if_success (refine z0r ?_));exfalso;(try clear ih1);(try clear ih2);(try clear hm13);(try clear hm19);(try clear hm21);first|omega|(simp_all;done))
 all_goals
  refine z0r ?_
  refine z0d (z1o (fun k1:Nat=>⟨143,[(1,PV.ptr (0,1) 0),(15,PV.d (D.slice (List.map Region.cs c.regions))),(16,I IntKind.i64 (↑c.regions.length:Int)),(17,I .i64 (k1:Nat))],[(1,Blk.box (List.map PV.d c.cs))],H⟩) (fun k1:Nat=>k1≤c.regions.length) (fun k1:Nat=>c.regions.length-k1) ?_ 0 (zAf _)) rfl rfl
  intro k1 hk1 ih1
  by_cases hlt1:k1<c.regions.length
  case pos =>
   obtain⟨x1,hx1⟩:∃x,c.regions[k1]? =some x:=⟨_,zA0 (by omega)⟩
   have hp1:=hc.reg x1 (zA2 hx1)
   have hn1:=hp1.1
   obtain⟨y1,hy1⟩:∃y,c.regions[((k1:Int)-1).toNat]? =some y:=⟨_,zA0 (by omega)⟩
   have hp2:=hc.reg y1 (zA2 hy1)
   repeat' first|(apply z05;first|refine z0n ?_| (apply z0a;first|refine z02 z1r rfl rfl ?_| refine z02 z16 rfl rfl ?_| refine z02 z1w rfl rfl ?_)|(apply z0c;refine z02 z0i rfl rfl ?_)|(apply z0k;refine z02 (z1a rfl (idx hx1)) rfl rfl ?_)|(apply z0t;refine z02 (z0z z1h) rfl rfl ?_)|(apply zc0;refine z02 (z7v rfl (by omega) (by omega) fun _=>rfl) rfl rfl ?_)|(apply z0s;refine z02 (z0w rfl) rfl rfl ?_)|(apply z0j;first|(refine z8h (z5t _ (by omega)) rfl (by decide) (fun p hp=>?_);obtain⟨_,rfl⟩:=hp)|(refine z8h (zlj _ _ _ hc) rfl (by decide) (fun p hp=>?_);obtain⟨_,rfl⟩:=hp)|(refine z8h (zk9 _ hp1.2.1) rfl (by decide) (fun p hp=>?_);obtain⟨_,rfl⟩:=hp))|(apply z0f;refine z25 ?_)|(apply z0l;refine z0b z2e ?_))|(apply z06;first|refine z0m ?_|(apply z3n;refine z3o [0,1,2,3,4,5,6,7,8,9,13,15,16,17,18,22,28,41,56,62,63,64,65,80,136,140,100500,100501] (by repeat' (first|exact z2n.nil|apply z2n.yes rfl|apply z2n.no)) (by repeat' (first|exact z13.nil|apply z13.old rfl|apply z13.gone|apply z13.new rfl)) ?_))|(apply z07;first|(refine zct (b:= ?_) hm13 ?_ ?_ ?_;rotate_left;(exact rfl);(exact rfl);exact rfl)|refine zgy 13 56 (fun b13=>?_) (fun hm13=>?_)|apply z08|apply z00|apply z04|apply z01|apply z03|refine z0h (fun _=>?_) (fun _=>?_)| refine z38 rfl (fun _=>?_) (fun _=>?_)|refine z2q rfl (fun _=>?_) (fun _=>?_)|refine z0o ?_)|(apply z2m;first|(apply z1e;refine z97 [0,1,2,3,4,5,6,7,8,9,13,15,16,17,18,22,28,41,56,62,63,64,65,80,136,140,100500,100501] mix (by kernel_rfl) (by repeat' (first|exact z2n.nil|apply z2n.yes rfl|apply z2n.no)) (by repeat' (first|exact z13.nil|apply z13.old rfl|apply z13.gone|apply z13.new rfl)) ?_)|refine z6d rfl rfl (by decide) ?_|refine z2w ?_| (apply z0v;first|refine z0x z16 rfl rfl ?_| refine z0x z1w rfl rfl ?_| refine z0x z1y rfl rfl ?_)|(apply z0u;refine z0x z0i rfl rfl ?_)|(apply z1i;refine z0x (z1a rfl (z6h hy1)) rfl rfl ?_)|(apply z3p;refine z0x (z2l z1h) rfl rfl ?_)|(apply z1s;refine z5b (za2 (zlr _ _ hp2.2.1 hp1.2.1)) ?_)|(refine z4h rfl rfl (fun hg=>?_) (fun hg=>?_) <;> simp only[hg] <;> (try simp only[zA3,zA5,zA6,zA8]at hg)))
   all_goals try first|exact z0e func116 _ z2s ⟨_,rfl,⟨_,_,rfl⟩,rfl⟩|exact z0d (ih1 (k1+1) (by omega) (by omega)) rfl rfl|((fail_if_success (refine z0r ?_));exfalso;(try clear ih1);(try clear ih2);(try clear hm13);(try clear hm19);(try clear hm21);first|omega|(simp_all;done))
   all_goals
    refine z0r ?_
    refine z0d (z1o (fun q:Nat × Int=>⟨143,[(1,PV.ptr (0,1) 0),(4,I IntKind.i64 (↑k1:Int)),(5,PV.ptr (0,5) 0),(7,I .i64 q.2),(15,PV.d (D.slice (List.map Region.cs c.regions))),(16,I IntKind.i64 (↑c.regions.length:Int)),(17,I IntKind.i64 (↑k1:Int)),(62,PV.d (D.slice (List.map Region.cs (List.take ((↑k1:Int)+1).toNat c.regions)))),(63,I IntKind.i64 (↑(List.take ((↑k1:Int)+1).toNat c.regions).length:Int)),(64,I .i64 (q.1:Nat))],[(1,Blk.box (List.map PV.d c.cs)),(5,Blk.box (z1b (z5q ({ size:=4,bytes:=56,kind:=TK.struct,fields:=[(0,1),(1,1),(2,1),(3,1)],zero:=[Value.string { data:=#[] },Value.int IntKind.i64 0,Value.int IntKind.i64 0,z1t] }:TI).zero) 0 (List.map PV.d x1.cs)))],H⟩) (fun q:Nat × Int=>q.1≤(List.take ((k1:Int)+1).toNat c.regions).length∧0≤q.2∧q.2≤q.1) (fun q:Nat × Int=>(List.take ((↑k1:Int)+1).toNat c.regions).length-q.1) ?_ ⟨0,_⟩ (by simp)) rfl rfl
    intro⟨k2,m2_7⟩ hk2 ih2
    simp only at hk2 ih2⊢
    by_cases hlt2:k2<(List.take ((↑k1:Int)+1).toNat c.regions).length
    case pos =>
     obtain⟨x2,hx2⟩:∃x,(List.take ((k1:Int)+1).toNat c.regions)[k2]? =some x:=⟨_,zA0 (by omega)⟩
     have hl2:(List.take ((k1:Int)+1).toNat c.regions).length≤c.regions.length:=by rw[zAm];omega
     have hl2:(List.take ((↑k1:Int)+1).toNat c.regions).length≤_:=List.length_take_le _ _
     repeat' first|(apply z05;first|refine z0n ?_| (apply z0a;first|refine z02 z16 rfl rfl ?_| refine z02 z1w rfl rfl ?_)|(apply z0c;refine z02 z0i rfl rfl ?_)|(apply z0k;refine z02 (z1a rfl (idx hx2)) rfl rfl ?_)|(apply z0t;refine z02 (z0z z1h) rfl rfl ?_)|(apply z0f;refine z25 ?_)|(apply z0l;refine z0b z2e ?_))|(apply z06;first|refine z0m ?_|(apply z3n;refine z3o [0,1,2,3,4,5,6,7,8,9,13,15,16,17,18,22,28,41,56,62,63,64,65,80,136,140,100500,100501] (by repeat' (first|exact z2n.nil|apply z2n.yes rfl|apply z2n.no)) (by repeat' (first|exact z13.nil|apply z13.old rfl|apply z13.gone|apply z13.new rfl)) ?_)|refine z1g ?_| refine z7t rfl rfl (by decide) ?_|refine z1p (fun _=>?_) (fun _=>?_)| refine z39 rfl rfl (fun _=>?_) fun _=>?_)|(apply z07;first|(refine zct (b:= ?_) hm19 ?_ ?_ ?_;rotate_left;(exact rfl);(exact rfl);exact rfl)|(refine zct (b:= ?_) hm21 ?_ ?_ ?_;rotate_left;(exact rfl);(exact rfl);exact rfl)|refine z7o 19 80 (fun b19=>?_) (fun hm19=>?_)|refine z7o 21 136 (fun b21=>?_) (fun hm21=>?_)|apply z08|apply z00|apply z04|apply z01|apply z03|refine z0h (fun _=>?_) (fun _=>?_)| refine z2q rfl (fun _=>?_) (fun _=>?_)|refine z0o ?_)
     all_goals try first|exact z0e func116 _ z2s ⟨_,rfl,⟨_,_,rfl⟩,rfl⟩|exact z0d (ih2 ⟨k2+1,_⟩ (by simp at hk2⊢;omega) (by omega)) rfl rfl|exact z0d (ih1 (k1+1) (by omega) (by omega)) rfl rfl|((fail_if_success (refine z0r ?_));exfalso;(try clear ih1);(try clear ih2);(try clear hm13);(try clear hm19);(try clear hm21);first|omega|(simp_all;done))
    case neg =>
     repeat' first|(apply z05;first|refine z0n ?_| (apply z0t;refine z02 (z0z z1h) rfl rfl ?_))|(apply z06;first|refine z0m ?_|(apply z3n;refine z3o [0,1,2,3,4,5,6,7,8,9,13,15,16,17,18,22,28,41,56,62,63,64,65,80,136,140,100500,100501] (by repeat' (first|exact z2n.nil|apply z2n.yes rfl|apply z2n.no)) (by repeat' (first|exact z13.nil|apply z13.old rfl|apply z13.gone|apply z13.new rfl)) ?_))|(apply z07;first|apply z08|apply z00|apply z04|apply z01|apply z03|refine z0h (fun _=>?_) (fun _=>?_)| refine z0o ?_)
     all_goals try first|exact z0e func116 _ z2s ⟨_,rfl,⟨_,_,rfl⟩,rfl⟩|exact z0d (ih1 (k1+1) (by omega) (by omega)) rfl rfl|((fail_if_success (refine z0r ?_));exfalso;(try clear ih1);(try clear ih2);(try clear hm13);(try clear hm19);(try clear hm21);first|omega|(simp_all;done))
  case neg =>
   repeat' first|(apply z05;refine z0n ?_)|(apply z06;first|refine z0m ?_|(apply z3n;refine z3o [0,1,2,3,4,5,6,7,8,9,13,15,16,17,18,22,28,41,56,62,63,64,65,80,136,140,100500,100501] (by repeat' (first|exact z2n.nil|apply z2n.yes rfl|apply z2n.no)) (by repeat' (first|exact z13.nil|apply z13.old rfl|apply z13.gone|apply z13.new rfl)) ?_))|(apply z07;first|apply z08|apply z00|apply z04|apply z01|refine z0h (fun _=>?_) (fun _=>?_)| refine z0o ?_)
   all_goals try first|exact z0e func116 _ z2s ⟨_,rfl,⟨_,_,rfl⟩,rfl⟩|((fail_if_success (refine z0r ?_));exfalso;(try clear ih1);(try clear ih2);(try clear hm13);(try clear hm19);(try clear hm21);first|omega|(simp_all;done))
end Go.Proofs.YtonhfccmeammbaaGreatDoor
