/- A part of the proof: T35 to T50. -/
import Derived.Test.YtonhfccmeammbaaGreatDoorUTC
import Derived.Test.YtonhfccmeammbaaGreatDoorUTE
import Derived.Test.YtonhfccmeammbaaGreatDoorUTA
import Derived.Test.YtonhfccmeammbaaGreatDoorUb
set_option linter.all false
namespace Go.Proofs.YtonhfccmeammbaaGreatDoor
open Go.Ab
set_option maxHeartbeats 20000000
attribute [local irreducible] Run Ops Op1 z1x Val Tr z0m z1r NF Rel
theorem zoq (a b:z0v) (ha:Small a) (hb:Small b) (hpa:∀ (i:Nat) (x:Node),a.nodes[i]? =some x→-1≤x.parent∧x.parent<i) (hpb:∀ (i:Nat) (x:Node),b.nodes[i]? =some x→-1≤x.parent∧x.parent<i) (hh:∀ x∈b.heads,-1≤x∧x≤1000000):NF Tryz.prog 27 [a.d,b.d] (zv0 a b):=by
 refine z4y fun H=>?_
 refine z0g Tryz.func27 (by kernel_rfl) rfl (by simp) ?_
 dsimp only[Tryz.f27]
 have ha1:=ha.toks
 have hb1:=hb.toks
 have ha2:=ha.ntexts
 have hb2:=hb.ntexts
 have ha3:=ha.nregs
 have hb3:=hb.nregs
 have ha4:=ha.nnodes
 have hb4:=hb.nnodes
 have ha5:=ha.nheads
 have hb5:=hb.nheads
 have ha6:=ha.nattrs
 have ha7:=zjd ha5 ha1
 have hb7:=zjd hb5 hb1
 have ha8:=zjb ha.nrels ha1
 have hb8:=zjb hb.nrels hb1
 repeat' (first|(apply z04;(first|refine z0l ?_| (apply z0a;(first|refine z02 z2c rfl rfl ?_| refine z02 z18 rfl rfl ?_))|(apply z0d;(refine z02 z1a rfl rfl ?_))|(apply z0x;(refine z02 (z0y rfl) rfl rfl ?_))|(apply z0j;(first|(refine z7a (zii a ha hpa) rfl (by decide) (fun p hp=>?_);obtain⟨_,rfl⟩:=hp)|(refine z7a (zii b hb hpb) rfl (by decide) (fun p hp=>?_);obtain⟨_,rfl⟩:=hp)|(refine z7a (zh0 _ _ ha.nattrs hb.nattrs) rfl (by decide) (fun p hp=>?_);obtain⟨_,rfl⟩:=hp)))|(apply z0f;(refine z2d ?_))|(apply z0i;(refine z0b z1e ?_))|(apply z1c;(refine z0b z1q ?_))|(apply z1i;(refine z2x ?_))))|(apply z05;(first|refine z0k ?_|(apply z34;refine z36 [0,1,2,3,4,5,7,8,9,10,11,12,13,14,15,16,17,19,27,34,37,38,39,40,47,89,116,153,188,217,235,254,255,256,257,261,100500,100501] (by repeat' (first|exact z2b.nil|apply z2b.yes rfl|apply z2b.no)) (by repeat' (first|exact z0p.nil|apply z0p.old rfl|apply z0p.gone|apply z0p.new rfl)) ?_)|refine z1m ?_| refine zao rfl rfl (fun _=>?_) (fun _=>?_)))|(apply z06;(first|apply z07|apply z00|refine z1b rfl ?_|apply z08|apply z01|refine z2i rfl (fun _=>?_) (fun _=>?_))))
 all_goals try (first|(first|exact z0c Tryz.func27 _ (z0r rfl rfl rfl rfl rfl rfl rfl) ⟨_,rfl,Or.inl ⟨_,(by decide),rfl⟩,rfl⟩|(have e0:¬ 0<a.heads.length+b.heads.length:=(by omega);exact z0c Tryz.func27 _ (z0r rfl rfl rfl rfl rfl rfl rfl) ⟨_,rfl,Or.inr (by rw[cat,zAx e0,zAx e0];rfl),rfl⟩)|(have e0:0<a.heads.length+b.heads.length:=(by omega);exact z0c Tryz.func27 _ (z0r rfl rfl rfl rfl rfl rfl rfl) ⟨_,rfl,Or.inr (by rw[cat,zAy e0,zAy e0];rfl),rfl⟩))|(exfalso;(try clear ih1);(try clear ih2);(try clear ih3);(try clear ih4);(try clear ih5);(try clear hm12);omega)|((fail_if_success (refine z0t ?_));exfalso;(try clear ih1);(try clear ih2);(try clear ih3);(try clear ih4);(try clear ih5);(try clear hm12);simp_all;done))
 all_goals
  refine z0t ?_
  refine z0e (z1v (fun k1:Nat=>⟨273,[(2,PV.ptr (0,2) 0),(3,PV.ptr (0,3) 0),(4,PV.ptr (0,4) 0),(37,PV.d (D.slice (List.map Text.cs b.texts))),(38,I IntKind.i64 (↑b.texts.length:Int)),(39,I .i64 (k1:Nat))],[(2,Blk.box (List.map PV.d a.cs)),(3,Blk.box (List.map PV.d b.cs)),(4,Blk.box (z4u ({ size:=7,bytes:=168,kind:=TK.struct,fields:=[(0,1),(1,1),(2,1),(3,1),(4,1),(5,1),(6,1)],zero:=[z1k,z1k,z1k,z1k,z1k,z1k,z1k] }:TI).zero))],H⟩) (fun k1:Nat=>k1≤b.texts.length) (fun k1:Nat=>b.texts.length-k1) ?_ 0 (zAf _)) rfl rfl
  intro k1 hk1 ih1
  by_cases hlt1:k1<b.texts.length
  case pos =>
   obtain⟨x1,hx1⟩:∃ x,b.texts[k1]? =some x:=⟨_,zA0 (by omega)⟩
   repeat' (first|(apply z04;(first|refine z0l ?_| (apply z0a;(first|refine z02 z2c rfl rfl ?_| refine z02 z18 rfl rfl ?_| refine z02 z2j rfl rfl ?_))|(apply z0d;(refine z02 z1a rfl rfl ?_))|(apply z0n;(refine z02 (z1o rfl (idx hx1)) rfl rfl ?_))|(apply z0z;(refine z02 (z14 z1p) rfl rfl ?_))|(apply z0x;(first|(refine zi6 (d:=93) rfl rfl rfl (fun _=>rfl) (by decide) rfl (by decide) (by omega) ?_;refine zb9 93 rfl ?_)|refine z02 (z0y rfl) rfl rfl ?_))|(apply z0j;((refine z7a (zk2 _ _ ha) rfl (by decide) (fun p hp=>?_);obtain⟨_,rfl⟩:=hp)))|(apply z0f;(refine z2d ?_))|(apply z0i;(refine z0b z1e ?_))|(apply z1i;(refine z2x ?_))))|(apply z05;(first|refine z0k ?_|(apply z34;refine z36 [0,1,2,3,4,5,7,8,9,10,11,12,13,14,15,16,17,19,27,34,37,38,39,40,47,89,116,153,188,217,235,254,255,256,257,261,100500,100501] (by repeat' (first|exact z2b.nil|apply z2b.yes rfl|apply z2b.no)) (by repeat' (first|exact z0p.nil|apply z0p.old rfl|apply z0p.gone|apply z0p.new rfl)) ?_)|refine z1m ?_| refine z1t (fun _=>?_) (fun _=>?_)))|(apply z06;(first|(refine zb0 (b:= ?_) hm12 ?_ ?_ ?_;rotate_left;(exact rfl);(exact rfl);(exact rfl))|refine z6h 12 89 (fun b12=>?_) (fun hm12=>?_)|apply z07|apply z00|apply z08|apply z01|apply z2z|apply z03|refine z0h (fun _=>?_) (fun _=>?_)| refine z2i rfl (fun _=>?_) (fun _=>?_)|refine z0o ?_))|(apply z2v;(first|(apply z1l;refine z7i [0,1,2,3,4,5,7,8,9,10,11,12,13,14,15,16,17,19,27,34,37,38,39,40,47,89,116,153,188,217,235,254,255,256,257,261,100500,100501] mix (by kernel_rfl) (by repeat' (first|exact z2b.nil|apply z2b.yes rfl|apply z2b.no)) (by repeat' (first|exact z0p.nil|apply z0p.old rfl|apply z0p.gone|apply z0p.new rfl)) ?_)|refine z3h ?_| (apply z0u;(refine z0w z18 rfl rfl ?_))|(apply z0q;(refine z0w z1a rfl rfl ?_))|(apply z3n;(first|refine zcv (by first|exact rfl|exact⟨_,rfl,rfl,rfl⟩) rfl rfl rfl (fun _=>rfl) (by decide) rfl (by decide) (by omega) ?_|refine zat (by first|exact rfl|exact⟨_,rfl,rfl,rfl⟩) rfl rfl rfl rfl rfl (fun _=>rfl) (by decide) rfl (by decide) (by omega) ?_|refine z0w (z0y rfl) rfl rfl ?_))|(apply z2k;(refine z55 (by first|exact rfl|exact⟨_,rfl,rfl,rfl⟩) rfl rfl rfl rfl rfl ?_)))))
   all_goals try (first|(first|exact z0c Tryz.func27 _ (z0r rfl rfl rfl rfl rfl rfl rfl) ⟨_,rfl,Or.inl ⟨_,(by decide),rfl⟩,rfl⟩|(have e0:¬ 0<a.heads.length+b.heads.length:=(by omega);exact z0c Tryz.func27 _ (z0r rfl rfl rfl rfl rfl rfl rfl) ⟨_,rfl,Or.inr (by rw[cat,zAx e0,zAx e0];rfl),rfl⟩)|(have e0:0<a.heads.length+b.heads.length:=(by omega);exact z0c Tryz.func27 _ (z0r rfl rfl rfl rfl rfl rfl rfl) ⟨_,rfl,Or.inr (by rw[cat,zAy e0,zAy e0];rfl),rfl⟩))|exact z0e (ih1 (k1+1) (by omega) (by omega)) rfl rfl|(exfalso;(try clear ih1);(try clear ih2);(try clear ih3);(try clear ih4);(try clear ih5);(try clear hm12);omega)|((fail_if_success (refine z0t ?_));exfalso;(try clear ih1);(try clear ih2);(try clear ih3);(try clear ih4);(try clear ih5);(try clear hm12);simp_all;done))
  case neg =>
   repeat' (first|(apply z04;(first|refine z0l ?_| (apply z0a;(refine z02 z18 rfl rfl ?_))|(apply z0d;(refine z02 z1a rfl rfl ?_))|(apply z0z;(refine z02 (z14 z1p) rfl rfl ?_))|(apply z0x;(first|(refine zi6 (d:=93) rfl rfl rfl (fun _=>rfl) (by decide) rfl (by decide) (by omega) ?_;refine zb9 93 rfl ?_)|refine z02 (z0y rfl) rfl rfl ?_))|(apply z0f;(refine z2d ?_))|(apply z0i;(refine z0b z1e ?_))|(apply z1i;(refine z2x ?_))))|(apply z05;(first|refine z0k ?_|(apply z34;refine z36 [0,1,2,3,4,5,7,8,9,10,11,12,13,14,15,16,17,19,27,34,37,38,39,40,47,89,116,153,188,217,235,254,255,256,257,261,100500,100501] (by repeat' (first|exact z2b.nil|apply z2b.yes rfl|apply z2b.no)) (by repeat' (first|exact z0p.nil|apply z0p.old rfl|apply z0p.gone|apply z0p.new rfl)) ?_)|refine z1m ?_| refine z1t (fun _=>?_) (fun _=>?_)))|(apply z06;(first|(refine zb0 (b:= ?_) hm12 ?_ ?_ ?_;rotate_left;(exact rfl);(exact rfl);(exact rfl))|refine z6h 12 89 (fun b12=>?_) (fun hm12=>?_)|apply z07|apply z00|apply z08|apply z01|apply z2z|refine z0h (fun _=>?_) (fun _=>?_)| refine z2i rfl (fun _=>?_) (fun _=>?_)|refine z0o ?_))|(apply z2v;(first|(apply z1l;refine z7i [0,1,2,3,4,5,7,8,9,10,11,12,13,14,15,16,17,19,27,34,37,38,39,40,47,89,116,153,188,217,235,254,255,256,257,261,100500,100501] mix (by kernel_rfl) (by repeat' (first|exact z2b.nil|apply z2b.yes rfl|apply z2b.no)) (by repeat' (first|exact z0p.nil|apply z0p.old rfl|apply z0p.gone|apply z0p.new rfl)) ?_)|refine z3h ?_| (apply z0u;(refine z0w z18 rfl rfl ?_))|(apply z0q;(refine z0w z1a rfl rfl ?_))|(apply z3n;(first|refine zcv (by first|exact rfl|exact⟨_,rfl,rfl,rfl⟩) rfl rfl rfl (fun _=>rfl) (by decide) rfl (by decide) (by omega) ?_|refine zat (by first|exact rfl|exact⟨_,rfl,rfl,rfl⟩) rfl rfl rfl rfl rfl (fun _=>rfl) (by decide) rfl (by decide) (by omega) ?_|refine z0w (z0y rfl) rfl rfl ?_))|(apply z2k;(refine z55 (by first|exact rfl|exact⟨_,rfl,rfl,rfl⟩) rfl rfl rfl rfl rfl ?_)))))
   all_goals try (first|(first|exact z0c Tryz.func27 _ (z0r rfl rfl rfl rfl rfl rfl rfl) ⟨_,rfl,Or.inl ⟨_,(by decide),rfl⟩,rfl⟩|(have e0:¬ 0<a.heads.length+b.heads.length:=(by omega);exact z0c Tryz.func27 _ (z0r rfl rfl rfl rfl rfl rfl rfl) ⟨_,rfl,Or.inr (by rw[cat,zAx e0,zAx e0];rfl),rfl⟩)|(have e0:0<a.heads.length+b.heads.length:=(by omega);exact z0c Tryz.func27 _ (z0r rfl rfl rfl rfl rfl rfl rfl) ⟨_,rfl,Or.inr (by rw[cat,zAy e0,zAy e0];rfl),rfl⟩))|(exfalso;(try clear ih1);(try clear ih2);(try clear ih3);(try clear ih4);(try clear ih5);(try clear hm12);omega)|((fail_if_success (refine z0t ?_));exfalso;(try clear ih1);(try clear ih2);(try clear ih3);(try clear ih4);(try clear ih5);(try clear hm12);simp_all;done))
   all_goals
    refine z19 100 rfl ?_
    refine z0t ?_
    refine z0e (z1v (fun k2:Nat=>⟨273,[(2,PV.ptr (0,2) 0),(3,PV.ptr (0,3) 0),(4,PV.ptr (0,4) 0),(8,PV.d (D.lit (Value.int IntKind.i64 (↑a.tokens.length:Int)))),(9,PV.d (D.lit (Value.int IntKind.i64 (↑a.nodes.length:Int)))),(10,PV.ptr (0,10) 0),(11,I .i64 ((a.texts.length+k2:Nat):Int))],[(2,Blk.box [PV.d (D.slice (List.map Attr.cs a.attrs)),PV.d (D.slice (List.map (fun t=>[strs t]) a.tokens)),PV.d (D.slice (List.map Text.cs a.texts)),PV.d (D.slice (List.map Region.cs a.regions)),PV.d (D.slice (List.map Node.cs a.nodes)),PV.d (ints a.heads),PV.d (strs a.rels)]),(10,Blk.box [PV.d (D.slice (List.map Attr.cs a.attrs)),PV.d (D.slice (List.map (fun t=>[strs t]) (a.tokens++b.tokens))),PV.ref (0,107),PV.d (D.lit z1k),PV.d (D.lit z1k),PV.d (D.lit z1k),PV.d (D.lit z1k)]),(3,Blk.box [PV.d (D.slice (List.map Attr.cs b.attrs)),PV.d (D.slice (List.map (fun t=>[strs t]) b.tokens)),PV.d (D.slice (List.map Text.cs b.texts)),PV.d (D.slice (List.map Region.cs b.regions)),PV.d (D.slice (List.map Node.cs b.nodes)),PV.d (ints b.heads),PV.d (strs b.rels)]),(4,Blk.box [PV.d (D.lit z1k),PV.d (D.lit z1k),PV.d (D.lit z1k),PV.d (D.lit z1k),PV.d (D.lit z1k),PV.d (D.lit z1k),PV.d (D.lit z1k)]),(107,.row 66 4 ((mid a.texts b.texts (shT a.tokens.length) k2).map Text.cs))],H⟩) (fun k2:Nat=>k2≤b.texts.length) (fun k2:Nat=>b.texts.length-k2) ?_ 0 (zAf _)) rfl rfl
    intro k2 hk2 ih2
    have hl2:(mid a.texts b.texts (shT a.tokens.length) k2).length=a.texts.length+b.texts.length:=z7k _ _ _ _
    by_cases hlt2:k2<b.texts.length
    case pos =>
     obtain⟨x2,hx2⟩:∃ x,b.texts[k2]? =some x:=⟨_,zA0 (by omega)⟩
     have hs2:=hb.text x2 (zA2 hx2)
     have hg2a:(mid a.texts b.texts (shT a.tokens.length) k2)[((a.texts.length+k2:Nat):Int).toNat]? =some x2:=zgs hx2
     have hg2b:((mid a.texts b.texts (shT a.tokens.length) k2).set ((a.texts.length+k2:Nat):Int).toNat (⟨x2.name,x2.b+(a.tokens.length:Int),x2.e,x2.meta_⟩:Text))[((a.texts.length+k2:Nat):Int).toNat]? =some (⟨x2.name,x2.b+(a.tokens.length:Int),x2.e,x2.meta_⟩:Text):=z7y (by omega)
     repeat' (first|(apply z04;(first|refine z0l ?_| (apply z0a;(first|refine z02 (z2e hg2a rfl rfl rfl) rfl rfl ?_| refine z02 (z2e hg2b rfl rfl rfl) rfl rfl ?_| refine z02 z18 rfl rfl ?_))|(apply z0d;(first|refine z02 z1a rfl rfl ?_| refine z02 (z63 rfl rfl) rfl rfl ?_))|(apply z0n;(refine z02 (z25 rfl (by omega) (by first|(simp only[zA4];omega)|(simp only[zA4,List.length_set];omega)) rfl) rfl rfl ?_))|(apply z0z;(first|refine z02 (z14 (zu8 (by simp only;omega) (by simp only;omega))) rfl rfl ?_| refine z02 (z14 z1p) rfl rfl ?_))|(apply z0x;(first|refine z02 (z0y rfl) rfl rfl ?_| refine z02 (z3m rfl) rfl rfl ?_))|(apply z0f;(first|refine z27 (⟨x2.name,x2.b+(a.tokens.length:Int),x2.e,x2.meta_⟩:Text) (by rfl) (by rfl) (by rfl) (by rfl) hg2a (by rfl) (by rfl) (by rfl) (by rfl) ?_|refine z27 (⟨x2.name,x2.b+(a.tokens.length:Int),x2.e+(a.tokens.length:Int),x2.meta_⟩:Text) (by rfl) (by rfl) (by rfl) (by rfl) hg2b (by rfl) (by rfl) (by rfl) (zek hx2) ?_))))|(apply z05;(first|refine z0k ?_|(apply z34;refine z36 [0,1,2,3,4,5,7,8,9,10,11,12,13,14,15,16,17,19,27,34,37,38,39,40,47,89,116,153,188,217,235,254,255,256,257,261,100500,100501] (by repeat' (first|exact z2b.nil|apply z2b.yes rfl|apply z2b.no)) (by repeat' (first|exact z0p.nil|apply z0p.old rfl|apply z0p.gone|apply z0p.new rfl)) ?_)))|(apply z06;(first|apply z07|apply z00|apply z08|apply z01|apply z2z|apply z03|refine z0h (fun _=>?_) (fun _=>?_)| refine z0o ?_))|(apply z2v;(first|(apply z1l;refine z7i [0,1,2,3,4,5,7,8,9,10,11,12,13,14,15,16,17,19,27,34,37,38,39,40,47,89,116,153,188,217,235,254,255,256,257,261,100500,100501] mix (by kernel_rfl) (by repeat' (first|exact z2b.nil|apply z2b.yes rfl|apply z2b.no)) (by repeat' (first|exact z0p.nil|apply z0p.old rfl|apply z0p.gone|apply z0p.new rfl)) ?_)|(apply z0u;(refine z0w z18 rfl rfl ?_))|(apply z0q;(refine z0w z1a rfl rfl ?_))|(apply z3n;(first|refine zcv (by first|exact rfl|exact⟨_,rfl,rfl,rfl⟩) rfl rfl rfl (fun _=>rfl) (by decide) rfl (by decide) (by omega) ?_|refine zat (by first|exact rfl|exact⟨_,rfl,rfl,rfl⟩) rfl rfl rfl rfl rfl (fun _=>rfl) (by decide) rfl (by decide) (by omega) ?_))|(apply z2k;(refine z55 (by first|exact rfl|exact⟨_,rfl,rfl,rfl⟩) rfl rfl rfl rfl rfl ?_)))))
     all_goals try (first|(first|exact z0c Tryz.func27 _ (z0r rfl rfl rfl rfl rfl rfl rfl) ⟨_,rfl,Or.inl ⟨_,(by decide),rfl⟩,rfl⟩|(have e0:¬ 0<a.heads.length+b.heads.length:=(by omega);exact z0c Tryz.func27 _ (z0r rfl rfl rfl rfl rfl rfl rfl) ⟨_,rfl,Or.inr (by rw[cat,zAx e0,zAx e0];rfl),rfl⟩)|(have e0:0<a.heads.length+b.heads.length:=(by omega);exact z0c Tryz.func27 _ (z0r rfl rfl rfl rfl rfl rfl rfl) ⟨_,rfl,Or.inr (by rw[cat,zAy e0,zAy e0];rfl),rfl⟩))|exact z0e (ih2 (k2+1) (by omega) (by omega)) rfl rfl|(exfalso;(try clear ih1);(try clear ih2);(try clear ih3);(try clear ih4);(try clear ih5);(try clear hm12);omega)|((fail_if_success (refine z0t ?_));exfalso;(try clear ih1);(try clear ih2);(try clear ih3);(try clear ih4);(try clear ih5);(try clear hm12);simp_all;done))
    case neg =>
     repeat' (first|(apply z04;(first|refine z0l ?_| (apply z0a;(refine z02 z18 rfl rfl ?_))|(apply z0d;(refine z02 z1a rfl rfl ?_))|(apply z0x;(first|refine z02 (z0y rfl) rfl rfl ?_| refine z02 (z3m rfl) rfl rfl ?_))))|(apply z05;(first|refine z0k ?_|(apply z34;refine z36 [0,1,2,3,4,5,7,8,9,10,11,12,13,14,15,16,17,19,27,34,37,38,39,40,47,89,116,153,188,217,235,254,255,256,257,261,100500,100501] (by repeat' (first|exact z2b.nil|apply z2b.yes rfl|apply z2b.no)) (by repeat' (first|exact z0p.nil|apply z0p.old rfl|apply z0p.gone|apply z0p.new rfl)) ?_)))|(apply z06;(first|apply z07|apply z00|apply z08|apply z01|apply z2z|refine z0h (fun _=>?_) (fun _=>?_)| refine z0o ?_))|(apply z2v;(first|(apply z1l;refine z7i [0,1,2,3,4,5,7,8,9,10,11,12,13,14,15,16,17,19,27,34,37,38,39,40,47,89,116,153,188,217,235,254,255,256,257,261,100500,100501] mix (by kernel_rfl) (by repeat' (first|exact z2b.nil|apply z2b.yes rfl|apply z2b.no)) (by repeat' (first|exact z0p.nil|apply z0p.old rfl|apply z0p.gone|apply z0p.new rfl)) ?_)|(apply z0u;(refine z0w z18 rfl rfl ?_))|(apply z0q;(refine z0w z1a rfl rfl ?_))|(apply z3n;(first|refine zcv (by first|exact rfl|exact⟨_,rfl,rfl,rfl⟩) rfl rfl rfl (fun _=>rfl) (by decide) rfl (by decide) (by omega) ?_|refine zat (by first|exact rfl|exact⟨_,rfl,rfl,rfl⟩) rfl rfl rfl rfl rfl (fun _=>rfl) (by decide) rfl (by decide) (by omega) ?_))|(apply z2k;(refine z55 (by first|exact rfl|exact⟨_,rfl,rfl,rfl⟩) rfl rfl rfl rfl rfl ?_)))))
     all_goals try (first|(first|exact z0c Tryz.func27 _ (z0r rfl rfl rfl rfl rfl rfl rfl) ⟨_,rfl,Or.inl ⟨_,(by decide),rfl⟩,rfl⟩|(have e0:¬ 0<a.heads.length+b.heads.length:=(by omega);exact z0c Tryz.func27 _ (z0r rfl rfl rfl rfl rfl rfl rfl) ⟨_,rfl,Or.inr (by rw[cat,zAx e0,zAx e0];rfl),rfl⟩)|(have e0:0<a.heads.length+b.heads.length:=(by omega);exact z0c Tryz.func27 _ (z0r rfl rfl rfl rfl rfl rfl rfl) ⟨_,rfl,Or.inr (by rw[cat,zAy e0,zAy e0];rfl),rfl⟩))|(exfalso;(try clear ih1);(try clear ih2);(try clear ih3);(try clear ih4);(try clear ih5);(try clear hm12);omega)|((fail_if_success (refine z0t ?_));exfalso;(try clear ih1);(try clear ih2);(try clear ih3);(try clear ih4);(try clear ih5);(try clear hm12);simp_all;done))
     all_goals
      obtain rfl:k2=b.texts.length:=(by omega)
      refine z19 107 rfl ?_
      refine z0t ?_
      refine z0e (z1v (fun k3:Nat=>⟨273,[(2,PV.ptr (0,2) 0),(3,PV.ptr (0,3) 0),(4,PV.ptr (0,4) 0),(8,PV.d (D.lit (Value.int IntKind.i64 (↑a.tokens.length:Int)))),(9,PV.d (D.lit (Value.int IntKind.i64 (↑a.nodes.length:Int)))),(10,PV.ptr (0,10) 0),(12,I .i64 ((a.regions.length+k3:Nat):Int))],[(2,Blk.box [PV.d (D.slice (List.map Attr.cs a.attrs)),PV.d (D.slice (List.map (fun t=>[strs t]) a.tokens)),PV.d (D.slice (List.map Text.cs a.texts)),PV.d (D.slice (List.map Region.cs a.regions)),PV.d (D.slice (List.map Node.cs a.nodes)),PV.d (ints a.heads),PV.d (strs a.rels)]),(10,Blk.box [PV.d (D.slice (List.map Attr.cs a.attrs)),PV.d (D.slice (List.map (fun t=>[strs t]) (a.tokens++b.tokens))),PV.d (D.slice (List.map Text.cs (mid a.texts b.texts (shT (↑a.tokens.length:Int)) b.texts.length))),PV.ref (0,144),PV.d (D.lit z1k),PV.d (D.lit z1k),PV.d (D.lit z1k)]),(3,Blk.box [PV.d (D.slice (List.map Attr.cs b.attrs)),PV.d (D.slice (List.map (fun t=>[strs t]) b.tokens)),PV.d (D.slice (List.map Text.cs b.texts)),PV.d (D.slice (List.map Region.cs b.regions)),PV.d (D.slice (List.map Node.cs b.nodes)),PV.d (ints b.heads),PV.d (strs b.rels)]),(4,Blk.box [PV.d (D.lit z1k),PV.d (D.lit z1k),PV.d (D.lit z1k),PV.d (D.lit z1k),PV.d (D.lit z1k),PV.d (D.lit z1k),PV.d (D.lit z1k)]),(144,.row 84 4 ((mid a.regions b.regions (shR a.tokens.length) k3).map Region.cs))],H⟩) (fun k3:Nat=>k3≤b.regions.length) (fun k3:Nat=>b.regions.length-k3) ?_ 0 (zAf _)) rfl rfl
      intro k3 hk3 ih3
      have hl3:(mid a.regions b.regions (shR a.tokens.length) k3).length=a.regions.length+b.regions.length:=z7k _ _ _ _
      by_cases hlt3:k3<b.regions.length
      case pos =>
       obtain⟨x3,hx3⟩:∃ x,b.regions[k3]? =some x:=⟨_,zA0 (by omega)⟩
       have hs3:=hb.reg x3 (zA2 hx3)
       have hg3a:(mid a.regions b.regions (shR a.tokens.length) k3)[((a.regions.length+k3:Nat):Int).toNat]? =some x3:=zgs hx3
       have hg3b:((mid a.regions b.regions (shR a.tokens.length) k3).set ((a.regions.length+k3:Nat):Int).toNat (⟨x3.type,x3.b+(a.tokens.length:Int),x3.e,x3.keys⟩:Region))[((a.regions.length+k3:Nat):Int).toNat]? =some (⟨x3.type,x3.b+(a.tokens.length:Int),x3.e,x3.keys⟩:Region):=z7y (by omega)
       repeat' (first|(apply z04;(first|refine z0l ?_| (apply z0a;(first|refine z02 (z2e hg3a rfl rfl rfl) rfl rfl ?_| refine z02 (z2e hg3b rfl rfl rfl) rfl rfl ?_| refine z02 z18 rfl rfl ?_))|(apply z0d;(first|refine z02 z1a rfl rfl ?_| refine z02 (z63 rfl rfl) rfl rfl ?_))|(apply z0n;(refine z02 (z25 rfl (by omega) (by first|(simp only[zA4];omega)|(simp only[zA4,List.length_set];omega)) rfl) rfl rfl ?_))|(apply z0z;(first|refine z02 (z14 (zu8 (by simp only;omega) (by simp only;omega))) rfl rfl ?_| refine z02 (z14 z1p) rfl rfl ?_))|(apply z0x;(refine z02 (z3m rfl) rfl rfl ?_))|(apply z0f;(first|refine z27 (⟨x3.type,x3.b+(a.tokens.length:Int),x3.e,x3.keys⟩:Region) (by rfl) (by rfl) (by rfl) (by rfl) hg3a (by rfl) (by rfl) (by rfl) (by rfl) ?_|refine z27 (⟨x3.type,x3.b+(a.tokens.length:Int),x3.e+(a.tokens.length:Int),x3.keys⟩:Region) (by rfl) (by rfl) (by rfl) (by rfl) hg3b (by rfl) (by rfl) (by rfl) (zek hx3) ?_))))|(apply z05;(first|refine z0k ?_|(apply z34;refine z36 [0,1,2,3,4,5,7,8,9,10,11,12,13,14,15,16,17,19,27,34,37,38,39,40,47,89,116,153,188,217,235,254,255,256,257,261,100500,100501] (by repeat' (first|exact z2b.nil|apply z2b.yes rfl|apply z2b.no)) (by repeat' (first|exact z0p.nil|apply z0p.old rfl|apply z0p.gone|apply z0p.new rfl)) ?_)))|(apply z06;(first|apply z07|apply z00|apply z08|apply z01|apply z2z|apply z03|refine z0h (fun _=>?_) (fun _=>?_)| refine z0o ?_))|(apply z2v;(first|(apply z1l;refine z7i [0,1,2,3,4,5,7,8,9,10,11,12,13,14,15,16,17,19,27,34,37,38,39,40,47,89,116,153,188,217,235,254,255,256,257,261,100500,100501] mix (by kernel_rfl) (by repeat' (first|exact z2b.nil|apply z2b.yes rfl|apply z2b.no)) (by repeat' (first|exact z0p.nil|apply z0p.old rfl|apply z0p.gone|apply z0p.new rfl)) ?_)|(apply z0u;(refine z0w z18 rfl rfl ?_))|(apply z0q;(refine z0w z1a rfl rfl ?_))|(apply z3n;(first|refine zcv (by first|exact rfl|exact⟨_,rfl,rfl,rfl⟩) rfl rfl rfl (fun _=>rfl) (by decide) rfl (by decide) (by omega) ?_|refine zat (by first|exact rfl|exact⟨_,rfl,rfl,rfl⟩) rfl rfl rfl rfl rfl (fun _=>rfl) (by decide) rfl (by decide) (by omega) ?_))|(apply z2k;(refine z55 (by first|exact rfl|exact⟨_,rfl,rfl,rfl⟩) rfl rfl rfl rfl rfl ?_)))))
       all_goals try (first|(first|exact z0c Tryz.func27 _ (z0r rfl rfl rfl rfl rfl rfl rfl) ⟨_,rfl,Or.inl ⟨_,(by decide),rfl⟩,rfl⟩|(have e0:¬ 0<a.heads.length+b.heads.length:=(by omega);exact z0c Tryz.func27 _ (z0r rfl rfl rfl rfl rfl rfl rfl) ⟨_,rfl,Or.inr (by rw[cat,zAx e0,zAx e0];rfl),rfl⟩)|(have e0:0<a.heads.length+b.heads.length:=(by omega);exact z0c Tryz.func27 _ (z0r rfl rfl rfl rfl rfl rfl rfl) ⟨_,rfl,Or.inr (by rw[cat,zAy e0,zAy e0];rfl),rfl⟩))|exact z0e (ih3 (k3+1) (by omega) (by omega)) rfl rfl|(exfalso;(try clear ih1);(try clear ih2);(try clear ih3);(try clear ih4);(try clear ih5);(try clear hm12);omega)|((fail_if_success (refine z0t ?_));exfalso;(try clear ih1);(try clear ih2);(try clear ih3);(try clear ih4);(try clear ih5);(try clear hm12);simp_all;done))
      case neg =>
       repeat' (first|(apply z04;(first|refine z0l ?_| (apply z0a;(refine z02 z18 rfl rfl ?_))|(apply z0d;(refine z02 z1a rfl rfl ?_))|(apply z0x;(refine z02 (z3m rfl) rfl rfl ?_))))|(apply z05;(first|refine z0k ?_|(apply z34;refine z36 [0,1,2,3,4,5,7,8,9,10,11,12,13,14,15,16,17,19,27,34,37,38,39,40,47,89,116,153,188,217,235,254,255,256,257,261,100500,100501] (by repeat' (first|exact z2b.nil|apply z2b.yes rfl|apply z2b.no)) (by repeat' (first|exact z0p.nil|apply z0p.old rfl|apply z0p.gone|apply z0p.new rfl)) ?_)))|(apply z06;(first|apply z07|apply z00|apply z08|apply z01|apply z2z|refine z0h (fun _=>?_) (fun _=>?_)| refine z0o ?_))|(apply z2v;(first|(apply z1l;refine z7i [0,1,2,3,4,5,7,8,9,10,11,12,13,14,15,16,17,19,27,34,37,38,39,40,47,89,116,153,188,217,235,254,255,256,257,261,100500,100501] mix (by kernel_rfl) (by repeat' (first|exact z2b.nil|apply z2b.yes rfl|apply z2b.no)) (by repeat' (first|exact z0p.nil|apply z0p.old rfl|apply z0p.gone|apply z0p.new rfl)) ?_)|(apply z0u;(refine z0w z18 rfl rfl ?_))|(apply z0q;(refine z0w z1a rfl rfl ?_))|(apply z3n;(first|refine zcv (by first|exact rfl|exact⟨_,rfl,rfl,rfl⟩) rfl rfl rfl (fun _=>rfl) (by decide) rfl (by decide) (by omega) ?_|refine zat (by first|exact rfl|exact⟨_,rfl,rfl,rfl⟩) rfl rfl rfl rfl rfl (fun _=>rfl) (by decide) rfl (by decide) (by omega) ?_))|(apply z2k;(refine z55 (by first|exact rfl|exact⟨_,rfl,rfl,rfl⟩) rfl rfl rfl rfl rfl ?_)))))
       all_goals try (first|(first|exact z0c Tryz.func27 _ (z0r rfl rfl rfl rfl rfl rfl rfl) ⟨_,rfl,Or.inl ⟨_,(by decide),rfl⟩,rfl⟩|(have e0:¬ 0<a.heads.length+b.heads.length:=(by omega);exact z0c Tryz.func27 _ (z0r rfl rfl rfl rfl rfl rfl rfl) ⟨_,rfl,Or.inr (by rw[cat,zAx e0,zAx e0];rfl),rfl⟩)|(have e0:0<a.heads.length+b.heads.length:=(by omega);exact z0c Tryz.func27 _ (z0r rfl rfl rfl rfl rfl rfl rfl) ⟨_,rfl,Or.inr (by rw[cat,zAy e0,zAy e0];rfl),rfl⟩))|(exfalso;(try clear ih1);(try clear ih2);(try clear ih3);(try clear ih4);(try clear ih5);(try clear hm12);omega)|((fail_if_success (refine z0t ?_));exfalso;(try clear ih1);(try clear ih2);(try clear ih3);(try clear ih4);(try clear ih5);(try clear hm12);simp_all;done))
       all_goals
        obtain rfl:k3=b.regions.length:=(by omega)
        refine z19 144 rfl ?_
        refine z0t ?_
        refine z0e (z1v (fun k4:Nat=>⟨273,[(2,PV.ptr (0,2) 0),(3,PV.ptr (0,3) 0),(4,PV.ptr (0,4) 0),(8,PV.d (D.lit (Value.int IntKind.i64 (↑a.tokens.length:Int)))),(9,PV.d (D.lit (Value.int IntKind.i64 (↑a.nodes.length:Int)))),(10,PV.ptr (0,10) 0),(13,I .i64 ((a.nodes.length+k4:Nat):Int))],[(2,Blk.box [PV.d (D.slice (List.map Attr.cs a.attrs)),PV.d (D.slice (List.map (fun t=>[strs t]) a.tokens)),PV.d (D.slice (List.map Text.cs a.texts)),PV.d (D.slice (List.map Region.cs a.regions)),PV.d (D.slice (List.map Node.cs a.nodes)),PV.d (ints a.heads),PV.d (strs a.rels)]),(10,Blk.box [PV.d (D.slice (List.map Attr.cs a.attrs)),PV.d (D.slice (List.map (fun t=>[strs t]) (a.tokens++b.tokens))),PV.d (D.slice (List.map Text.cs (mid a.texts b.texts (shT (↑a.tokens.length:Int)) b.texts.length))),PV.d (D.slice (List.map Region.cs (mid a.regions b.regions (shR (↑a.tokens.length:Int)) b.regions.length))),PV.ref (0,181),PV.d (D.lit z1k),PV.d (D.lit z1k)]),(3,Blk.box [PV.d (D.slice (List.map Attr.cs b.attrs)),PV.d (D.slice (List.map (fun t=>[strs t]) b.tokens)),PV.d (D.slice (List.map Text.cs b.texts)),PV.d (D.slice (List.map Region.cs b.regions)),PV.d (D.slice (List.map Node.cs b.nodes)),PV.d (ints b.heads),PV.d (strs b.rels)]),(4,Blk.box [PV.d (D.lit z1k),PV.d (D.lit z1k),PV.d (D.lit z1k),PV.d (D.lit z1k),PV.d (D.lit z1k),PV.d (D.lit z1k),PV.d (D.lit z1k)]),(181,.row 55 4 ((mid a.nodes b.nodes (shN a.tokens.length a.nodes.length) k4).map Node.cs))],H⟩) (fun k4:Nat=>k4≤b.nodes.length) (fun k4:Nat=>b.nodes.length-k4) ?_ 0 (zAf _)) rfl rfl
        intro k4 hk4 ih4
        have hl4:(mid a.nodes b.nodes (shN a.tokens.length a.nodes.length) k4).length=a.nodes.length+b.nodes.length:=z7k _ _ _ _
        by_cases hlt4:k4<b.nodes.length
        case pos =>
         obtain⟨x4,hx4⟩:∃ x,b.nodes[k4]? =some x:=⟨_,zA0 (by omega)⟩
         have hs4:=hb.node x4 (zA2 hx4)
         have hg4a:(mid a.nodes b.nodes (shN a.tokens.length a.nodes.length) k4)[((a.nodes.length+k4:Nat):Int).toNat]? =some x4:=zgs hx4
         have hg4b:((mid a.nodes b.nodes (shN a.tokens.length a.nodes.length) k4).set ((a.nodes.length+k4:Nat):Int).toNat (⟨x4.label,x4.b+(a.tokens.length:Int),x4.e,x4.parent⟩:Node))[((a.nodes.length+k4:Nat):Int).toNat]? =some (⟨x4.label,x4.b+(a.tokens.length:Int),x4.e,x4.parent⟩:Node):=z7y (by omega)
         have hg4c:(((mid a.nodes b.nodes (shN a.tokens.length a.nodes.length) k4).set ((a.nodes.length+k4:Nat):Int).toNat (⟨x4.label,x4.b+(a.tokens.length:Int),x4.e,x4.parent⟩:Node)).set ((a.nodes.length+k4:Nat):Int).toNat (⟨x4.label,x4.b+(a.tokens.length:Int),x4.e+(a.tokens.length:Int),x4.parent⟩:Node))[((a.nodes.length+k4:Nat):Int).toNat]? =some (⟨x4.label,x4.b+(a.tokens.length:Int),x4.e+(a.tokens.length:Int),x4.parent⟩:Node):=zh5 (by omega)
         have hst4:0≤x4.parent→((((mid a.nodes b.nodes (shN a.tokens.length a.nodes.length) k4).set ((a.nodes.length+k4:Nat):Int).toNat (⟨x4.label,x4.b+(a.tokens.length:Int),x4.e,x4.parent⟩:Node)).set ((a.nodes.length+k4:Nat):Int).toNat (⟨x4.label,x4.b+(a.tokens.length:Int),x4.e+(a.tokens.length:Int),x4.parent⟩:Node)).set ((a.nodes.length+k4:Nat):Int).toNat ⟨x4.label,x4.b+(a.tokens.length:Int),x4.e+(a.tokens.length:Int),x4.parent+(a.nodes.length:Int)⟩)=mid a.nodes b.nodes (shN a.tokens.length a.nodes.length) (k4+1):=fun h=>by have:=zno (f:=shN a.tokens.length a.nodes.length) (y:=(⟨x4.label,x4.b+(a.tokens.length:Int),x4.e,x4.parent⟩:Node)) (z:=(⟨x4.label,x4.b+(a.tokens.length:Int),x4.e+(a.tokens.length:Int),x4.parent⟩:Node)) hx4 (A:=a.nodes);rw[show (shN a.tokens.length a.nodes.length) x4=_ from by simp only[shN,zAy h];rfl] at this;exact this
         have hsn4:¬ 0≤x4.parent→((mid a.nodes b.nodes (shN a.tokens.length a.nodes.length) k4).set ((a.nodes.length+k4:Nat):Int).toNat (⟨x4.label,x4.b+(a.tokens.length:Int),x4.e,x4.parent⟩:Node)).set ((a.nodes.length+k4:Nat):Int).toNat (⟨x4.label,x4.b+(a.tokens.length:Int),x4.e+(a.tokens.length:Int),x4.parent⟩:Node)=mid a.nodes b.nodes (shN a.tokens.length a.nodes.length) (k4+1):=fun h=>by have:=zek (f:=shN a.tokens.length a.nodes.length) (y:=(⟨x4.label,x4.b+(a.tokens.length:Int),x4.e,x4.parent⟩:Node)) hx4 (A:=a.nodes);rw[show (shN a.tokens.length a.nodes.length) x4=_ from by simp only[shN,zAx h];rfl] at this;exact this
         repeat' (first|(apply z04;(first|refine z0l ?_| (apply z0a;(first|refine z02 (z2e hg4a rfl rfl rfl) rfl rfl ?_| refine z02 (z2e hg4b rfl rfl rfl) rfl rfl ?_| refine z02 (z2e hg4c rfl rfl rfl) rfl rfl ?_| refine z02 z18 rfl rfl ?_| refine z02 z2a rfl rfl ?_))|(apply z0d;(first|refine z02 z1a rfl rfl ?_| refine z02 (z63 rfl rfl) rfl rfl ?_))|(apply z0n;(refine z02 (z25 rfl (by omega) (by first|(simp only[zA4];omega)|(simp only[zA4,List.length_set];omega)) rfl) rfl rfl ?_))|(apply z0z;(first|refine z02 (z14 (zu8 (by simp only;omega) (by simp only;omega))) rfl rfl ?_| refine z02 (z14 z1p) rfl rfl ?_))|(apply z0x;(first|refine zi8 rfl rfl rfl rfl rfl (fun _=>rfl) (by decide) rfl (by decide) (by omega) ?_|refine zi6 rfl rfl rfl (fun _=>rfl) (by decide) rfl (by decide) (by omega) ?_|refine z02 (z0y rfl) rfl rfl ?_| refine z02 (z3m rfl) rfl rfl ?_))|(apply z0j;(first|refine z2s (z8x (z86 a ha)) ?_| refine z2s (z8x (z86 b hb)) ?_))|(apply z0f;(first|refine z27 (⟨x4.label,x4.b+(a.tokens.length:Int),x4.e,x4.parent⟩:Node) (by rfl) (by rfl) (by rfl) (by rfl) hg4a (by rfl) (by rfl) (by rfl) (by rfl) ?_|refine z27 (⟨x4.label,x4.b+(a.tokens.length:Int),x4.e+(a.tokens.length:Int),x4.parent⟩:Node) (by rfl) (by rfl) (by rfl) (by rfl) hg4b (by rfl) (by rfl) (by rfl) (by rfl) ?_|refine z27 ⟨x4.label,x4.b+(a.tokens.length:Int),x4.e+(a.tokens.length:Int),x4.parent+(a.nodes.length:Int)⟩ (by rfl) (by rfl) (by rfl) (by rfl) hg4c (by rfl) (by rfl) (by rfl) (hst4 (by assumption)) ?_|refine z2d ?_))))|(apply z05;(first|refine z0k ?_|(apply z34;refine z36 [0,1,2,3,4,5,7,8,9,10,11,12,13,14,15,16,17,19,27,34,37,38,39,40,47,89,116,153,188,217,235,254,255,256,257,261,100500,100501] (by repeat' (first|exact z2b.nil|apply z2b.yes rfl|apply z2b.no)) (by repeat' (first|exact z0p.nil|apply z0p.old rfl|apply z0p.gone|apply z0p.new rfl)) ?_)))|(apply z06;(first|apply z07|apply z00|apply z08|apply z01|apply z03|refine z0h (fun _=>?_) (fun _=>?_)| refine z0o ?_)))
         all_goals try (first|(first|exact z0c Tryz.func27 _ (z0r rfl rfl rfl rfl rfl rfl rfl) ⟨_,rfl,Or.inl ⟨_,(by decide),rfl⟩,rfl⟩|(have e0:¬ 0<a.heads.length+b.heads.length:=(by omega);exact z0c Tryz.func27 _ (z0r rfl rfl rfl rfl rfl rfl rfl) ⟨_,rfl,Or.inr (by rw[cat,zAx e0,zAx e0];rfl),rfl⟩)|(have e0:0<a.heads.length+b.heads.length:=(by omega);exact z0c Tryz.func27 _ (z0r rfl rfl rfl rfl rfl rfl rfl) ⟨_,rfl,Or.inr (by rw[cat,zAy e0,zAy e0];rfl),rfl⟩))|(first|exact z0e (ih4 (k4+1) (by omega) (by omega)) rfl rfl|exact z0e (ih4 (k4+1) (by omega) (by omega)) rfl (by rw[← hsn4 (by assumption)];rfl))|(exfalso;(try clear ih1);(try clear ih2);(try clear ih3);(try clear ih4);(try clear ih5);(try clear hm12);omega)|((fail_if_success (refine z0t ?_));exfalso;(try clear ih1);(try clear ih2);(try clear ih3);(try clear ih4);(try clear ih5);(try clear hm12);simp_all;done))
        case neg =>
         obtain rfl:k4=b.nodes.length:=(by omega)
         refine z19 181 rfl ?_
         repeat' (first|(apply z04;(first|refine z0l ?_| (apply z0a;(first|refine z02 z18 rfl rfl ?_| refine z02 z2a rfl rfl ?_))|(apply z0d;(refine z02 z1a rfl rfl ?_))|(apply z0z;(refine z02 (z14 z1p) rfl rfl ?_))|(apply z0x;(first|refine zi8 rfl rfl rfl rfl rfl (fun _=>rfl) (by decide) rfl (by decide) (by omega) ?_|refine zi6 rfl rfl rfl (fun _=>rfl) (by decide) rfl (by decide) (by omega) ?_|refine z02 (z0y rfl) rfl rfl ?_))|(apply z0j;(first|refine z2s (z8x (z86 a ha)) ?_| refine z2s (z8x (z86 b hb)) ?_))|(apply z0f;(refine z2d ?_))))|(apply z05;(first|refine z0k ?_|(apply z34;refine z36 [0,1,2,3,4,5,7,8,9,10,11,12,13,14,15,16,17,19,27,34,37,38,39,40,47,89,116,153,188,217,235,254,255,256,257,261,100500,100501] (by repeat' (first|exact z2b.nil|apply z2b.yes rfl|apply z2b.no)) (by repeat' (first|exact z0p.nil|apply z0p.old rfl|apply z0p.gone|apply z0p.new rfl)) ?_)))|(apply z06;(first|apply z07|apply z00|apply z08|apply z01|refine z0h (fun _=>?_) (fun _=>?_)| refine z0o ?_)))
         all_goals try (first|(first|exact z0c Tryz.func27 _ (z0r rfl rfl rfl rfl rfl rfl rfl) ⟨_,rfl,Or.inl ⟨_,(by decide),rfl⟩,rfl⟩|(have e0:¬ 0<a.heads.length+b.heads.length:=(by omega);exact z0c Tryz.func27 _ (z0r rfl rfl rfl rfl rfl rfl rfl) ⟨_,rfl,Or.inr (by rw[cat,zAx e0,zAx e0];rfl),rfl⟩)|(have e0:0<a.heads.length+b.heads.length:=(by omega);exact z0c Tryz.func27 _ (z0r rfl rfl rfl rfl rfl rfl rfl) ⟨_,rfl,Or.inr (by rw[cat,zAy e0,zAy e0];rfl),rfl⟩))|(exfalso;(try clear ih1);(try clear ih2);(try clear ih3);(try clear ih4);(try clear ih5);(try clear hm12);omega)|((fail_if_success (refine z0t ?_));exfalso;(try clear ih1);(try clear ih2);(try clear ih3);(try clear ih4);(try clear ih5);(try clear hm12);simp_all;done))
         all_goals
          refine z19 251 rfl ?_
          refine z0t ?_
          refine z0e (z1v (fun k5:Nat=>⟨273,[(4,PV.ptr (0,4) 0),(8,PV.d (D.lit (Value.int IntKind.i64 (↑a.tokens.length:Int)))),(10,PV.ptr (0,10) 0),(254,PV.d (ints (z96 b))),(255,PV.d (D.lit (Value.int IntKind.i64 (↑(z96 b).length:Int)))),(256,I .i64 (k5:Nat))],[(10,Blk.box [PV.d (D.slice (List.map Attr.cs a.attrs)),PV.d (D.slice (List.map (fun t=>[strs t]) (a.tokens++b.tokens))),PV.d (D.slice (List.map Text.cs (mid a.texts b.texts (shT (↑a.tokens.length:Int)) b.texts.length))),PV.d (D.slice (List.map Region.cs (mid a.regions b.regions (shR (↑a.tokens.length:Int)) b.regions.length))),PV.d (D.slice (List.map Node.cs (mid a.nodes b.nodes (shN (↑a.tokens.length:Int) (↑a.nodes.length:Int)) b.nodes.length))),PV.ref (0,247),PV.d (D.slice (List.map (fun x=>[z5p x]) (zf4 a++zf4 b)))]),(4,Blk.box [PV.d (D.lit z1k),PV.d (D.lit z1k),PV.d (D.lit z1k),PV.d (D.lit z1k),PV.d (D.lit z1k),PV.d (D.lit z1k),PV.d (D.lit z1k)]),(247,.row 3 1 ((zm4 (z96 a) (z96 b) (shH a.tokens.length) k5).map fun x=>[z3c x]))],H⟩) (fun k5:Nat=>k5≤(z96 b).length) (fun k5:Nat=>(z96 b).length-k5) ?_ 0 (zAf _)) rfl rfl
          intro k5 hk5 ih5
          have hl5:=zj4 (z96 a) (z96 b) (shH a.tokens.length) k5
          by_cases hlt5:k5<(z96 b).length
          case pos =>
           obtain⟨x5,hx5⟩:∃ x,(z96 b)[k5]? =some x:=⟨_,zA0 (by omega)⟩
           have hr5:=zjl hh x5 (zA2 hx5)
           have hc5:=zfw (A:=z96 a) (f:=shH a.tokens.length) hx5
           repeat' (first|(apply z04;(first|refine z0l ?_| (apply z0a;(first|refine z02 z18 rfl rfl ?_| refine z02 z2p rfl rfl ?_))|(apply z0d;(refine z02 z1a rfl rfl ?_))|(apply z0n;(refine z02 (z1o rfl (idx hx5)) rfl rfl ?_))|(apply z0z;(refine z02 (z14 z1p) rfl rfl ?_))|(apply z0x;(refine z97 _ rfl ?_))|(apply z0f;(refine z2d ?_))|(apply z3t;(refine z3s rfl ?_))))|(apply z05;(first|refine z0k ?_|(apply z34;refine z36 [0,1,2,3,4,5,7,8,9,10,11,12,13,14,15,16,17,19,27,34,37,38,39,40,47,89,116,153,188,217,235,254,255,256,257,261,100500,100501] (by repeat' (first|exact z2b.nil|apply z2b.yes rfl|apply z2b.no)) (by repeat' (first|exact z0p.nil|apply z0p.old rfl|apply z0p.gone|apply z0p.new rfl)) ?_)))|(apply z06;(first|apply z07|apply z00|apply z08|apply z01|apply z03|refine z0h (fun _=>?_) (fun _=>?_)| refine z0o ?_)))
           all_goals try (first|(first|exact z0c Tryz.func27 _ (z0r rfl rfl rfl rfl rfl rfl rfl) ⟨_,rfl,Or.inl ⟨_,(by decide),rfl⟩,rfl⟩|(have e0:¬ 0<a.heads.length+b.heads.length:=(by omega);exact z0c Tryz.func27 _ (z0r rfl rfl rfl rfl rfl rfl rfl) ⟨_,rfl,Or.inr (by rw[cat,zAx e0,zAx e0];rfl),rfl⟩)|(have e0:0<a.heads.length+b.heads.length:=(by omega);exact z0c Tryz.func27 _ (z0r rfl rfl rfl rfl rfl rfl rfl) ⟨_,rfl,Or.inr (by rw[cat,zAy e0,zAy e0];rfl),rfl⟩))|(refine z4x 269 247 rfl rfl ?_;first|exact z0e (ih5 (k5+1) (by omega) (by omega)) rfl (by rw[hc5,shH,zAy (by assumption)];rfl)|exact z0e (ih5 (k5+1) (by omega) (by omega)) rfl (by rw[hc5,shH,zAx (by assumption)];rfl))|(exfalso;(try clear ih1);(try clear ih2);(try clear ih3);(try clear ih4);(try clear ih5);(try clear hm12);omega)|((fail_if_success (refine z0t ?_));exfalso;(try clear ih1);(try clear ih2);(try clear ih3);(try clear ih4);(try clear ih5);(try clear hm12);simp_all;done))
          case neg =>
           obtain rfl:k5=(z96 b).length:=(by omega)
           refine z19 247 rfl ?_
           repeat' (first|(apply z04;(first|refine z0l ?_| (apply z0a;(refine z02 z2a rfl rfl ?_))|(apply z0f;(refine z2d ?_))))|(apply z05;(first|refine z0k ?_|(apply z34;refine z36 [0,1,2,3,4,5,7,8,9,10,11,12,13,14,15,16,17,19,27,34,37,38,39,40,47,89,116,153,188,217,235,254,255,256,257,261,100500,100501] (by repeat' (first|exact z2b.nil|apply z2b.yes rfl|apply z2b.no)) (by repeat' (first|exact z0p.nil|apply z0p.old rfl|apply z0p.gone|apply z0p.new rfl)) ?_)))|(apply z06;(first|apply z07|apply z00|apply z08|apply z01|refine z0h (fun _=>?_) (fun _=>?_)| refine z0o ?_)))
           all_goals try (first|(first|exact z0c Tryz.func27 _ (z0r rfl rfl rfl rfl rfl rfl rfl) ⟨_,rfl,Or.inl ⟨_,(by decide),rfl⟩,rfl⟩|(have e0:¬ 0<a.heads.length+b.heads.length:=(by omega);exact z0c Tryz.func27 _ (z0r rfl rfl rfl rfl rfl rfl rfl) ⟨_,rfl,Or.inr (by rw[cat,zAx e0,zAx e0];rfl),rfl⟩)|(have e0:0<a.heads.length+b.heads.length:=(by omega);exact z0c Tryz.func27 _ (z0r rfl rfl rfl rfl rfl rfl rfl) ⟨_,rfl,Or.inr (by rw[cat,zAy e0,zAy e0];rfl),rfl⟩))|(exfalso;(try clear ih1);(try clear ih2);(try clear ih3);(try clear ih4);(try clear ih5);(try clear hm12);omega)|((fail_if_success (refine z0t ?_));exfalso;(try clear ih1);(try clear ih2);(try clear ih3);(try clear ih4);(try clear ih5);(try clear hm12);simp_all;done))
attribute [local irreducible] z47 z1u
def zkg:List Str:=[⟨#[116,48]⟩,⟨#[116,49]⟩,⟨#[116,50]⟩]
theorem zjr:∀ s∈zkg,s.size≤10:=by simp only[zkg,zAc,List.not_mem_nil,or_false];rintro s (rfl|rfl|rfl) <;> decide
theorem z5k.heads {n:Nat} {hs:List Int} {rs:List Str} (h:z5k n hs rs) (hn:n≤1000000):∀ x∈hs,-1≤x∧x≤1000000:=by
 obtain⟨rank,hr⟩:=h.range
 intro x hx
 obtain⟨i,hi⟩:=zAv hx
 rcases hr i x hi with e|⟨h1,h2,_⟩ <;> omega
theorem zhp {s t:Nat} {a b:z0v} (ha:Made s a) (hb:Made t b) (hs:s≤10) (ht:t≤10):NF Tryz.prog 27 [a.d,b.d] (zv0 a b):=by
 obtain⟨p,hp⟩:=ha.nodes
 obtain⟨q,hq⟩:=hb.nodes
 exact zoq a b (ha.small hs) (hb.small ht) (fun i x hx=>(hp.bounds (by omega) i x hx).2.2.2.2.2) (fun i x hx=>(hq.bounds (by omega) i x hx).2.2.2.2.2) (hb.heads.heads (by have:=hb.tok1;omega))
theorem zj5 (l:List Int) (k:Nat) (most:Int) (hl:l.length≤120) (hk:k≤120) (hmo:1≤most∧most≤7) :
 Rel Tryz.prog 10 [.ptr (0,500) 0,I .i64 most] [((0,500),z2g l k)]
  (fun x:z0v × Nat=>(∃ s,s≤3∧Made s x.1)∧x.2≤120) (fun x=>x.1.d) (fun x=>[((0,500),z2g l x.2)]):=by
 refine zd5 fun H hH=>?_
 have hH0:=hH ((0,500),z2g l k) (by simp)
 refine z0g Tryz.func10 (by kernel_rfl) rfl (by simp) ?_
 dsimp only[Tryz.f10]
 refine z4g 500 0 500 hH0 rfl rfl ?_
 refine z0e (tm':=[(0,.ptr (0,500) 0),(1,I .i64 most),(100500,.al (0,500) (1,500))]) (hp':=[(500,z2g l k)]) ?_ rfl rfl
 repeat' (first|(apply z04;(first|refine z0l ?_| (apply z0j;(first|(refine zo0 hl rfl rfl (by decide) (by omega) (by assumption) (fun _ _ _=>?_))|(refine z5c (zdc l _ _ most hl (by assumption) (by omega) (by decide)) rfl rfl (by decide) ?_;rintro⟨c,k1⟩ ⟨d1,d2⟩;simp only at d1 d2 ⊢)))|(apply z0f;(refine z2d ?_))|(apply z0i;(refine z0b z1e ?_))))|(apply z05;(first|refine z0k ?_|apply z09))|(apply z06;(first|apply z07|apply z00|apply z01)))
 refine z0t ?_
 refine z0e (z1v (fun q:Int × z0v × Nat=>⟨36,[(0,.ptr (0,500) 0),(1,I .i64 most),(4,.ptr (0,4) 0),(5,.ptr (0,5) 0),(6,I .i64 q.1),(100500,.al (0,500) (1,500))],
  [(500,z2g l q.2.2),(5,.box (q.2.1.cs.map .d)),(4,.box [.d (.lit z1k),.d (.lit z1k),.d (.lit z1k),.d (.lit z1k),.d (.lit z1k),.d (.lit z1k),.d (.lit z1k)])],upd H (0,500) .gone⟩)
  (fun q=>0≤q.1∧q.1≤2∧(∃ s:Nat,s≤3-q.1∧Made s q.2.1)∧q.2.2≤120)
  (fun q=>q.1.toNat) ?_ ⟨_,c,_⟩ ⟨(by assumption),(by simp only;omega),⟨1,(by simp only;omega),d1.made hmo.2⟩,(by assumption)⟩) rfl rfl
 intro ⟨m,a,kt⟩ ⟨h1,h2,⟨s,hs,h3⟩,h4⟩ ih
 simp only at h1 h2 hs h3 h4 ih ⊢
 by_cases hm:0<m
 · have hx:zkg[m.toNat]? =some (atL zkg m):=z3j (by omega) (by have:zkg.length=3:=rfl;omega)
   repeat' (first|(apply z04;(first|refine z0l ?_| (apply z0a;(first|refine z02 z2c rfl rfl ?_| refine z02 z2p rfl rfl ?_| refine z02 z2a rfl rfl ?_))|(apply z0n;(refine z02 (z1o rfl (z6u hx)) rfl rfl ?_))|(apply z0z;(refine z02 (z2q z1p) rfl rfl ?_))|(apply z0j;(first|(refine z5c (zdc l _ _ most hl (by assumption) (by omega) (z6g zjr _)) rfl rfl (by decide) ?_;rintro⟨b,k2⟩ ⟨e1,e2⟩;simp only at e1 e2 ⊢)|(refine z7a (zhp h3 (e1.made hmo.2) (by omega) (by decide)) rfl (by decide) (fun p hp=>?_);rcases hp with ⟨e,he,rfl⟩|rfl)))|(apply z0f;(refine z2d ?_))|(apply z0i;(refine z0b z1e ?_))|(apply z3t;(refine z3s (ys:=zkg.map fun x=>[z5p x]) rfl ?_))))|(apply z05;(first|refine z0k ?_|apply z09))|(apply z06;(first|apply z07|apply z00|refine z1b rfl ?_|apply z08|apply z01|apply z03|refine z0h (fun _=>?_) (fun _=>?_)| refine z0o ?_)))
   all_goals try (exfalso;omega)
   all_goals first
    | exact z0e (ih ⟨m-1,a,k2⟩ ⟨(by simp only;omega),(by simp only;omega),⟨s,(by simp only;omega),h3⟩,e2⟩ (by simp only;omega)) rfl rfl
    | exact z0e (ih ⟨m-1,cat a b,k2⟩ ⟨(by simp only;omega),(by simp only;omega),⟨s+1,(by simp only;omega),h3.cat (e1.made hmo.2)⟩,e2⟩ (by simp only;omega)) rfl rfl
    | exact z0e (ih ⟨m-1,zql,k2⟩ ⟨(by simp only;omega),(by simp only;omega),⟨s+1,(by simp only;omega),by exfalso;simp_all⟩,e2⟩ (by simp only;omega)) rfl rfl
 · repeat' (first|(apply z04;(first|refine z0l ?_| (apply z0a;(refine z02 z2c rfl rfl ?_))|(apply z0f;(refine z2d ?_))|(apply z3t;(refine z3s rfl ?_))))|(apply z05;(first|refine z0k ?_|apply z09))|(apply z06;(first|apply z07|apply z00|apply z08|apply z01|refine z0h (fun _=>?_) (fun _=>?_)| refine z0o ?_)))
   all_goals try (exfalso;omega)
   all_goals
    refine z39 500 0 500 (raw:=z2g l kt) rfl rfl rfl rfl rfl ?_
    exact z0c Tryz.func10 _ (z1s rfl rfl rfl rfl rfl rfl) ⟨(a,kt),⟨⟨s,by omega,h3⟩,h4⟩,rfl,z2t _ _ _ _⟩
theorem zng {c:z0v} (h:Wf c) {a:Int} (ha:token c a=true):way c a=a::(if head c a=-1 then [] else way c (head c a)):=by
 rw[way,zca h ha]
 by_cases e:head c a=-1
 · rw[zAy e,zAy e]
 · rw[zAx e,zAx e,way]
theorem zi2 {c:z0v} (h:Wf c):∀ (k:Nat) (a:Int),token c a=true→∀ x,(way c a)[k]? =some x→(way c a).drop k=way c x
 | 0,a,ha,x,hx=>by
  rw[way] at hx;simp at hx;subst hx;rfl
 | k+1,a,ha,x,hx=>by
  rw[zng h ha] at hx ⊢
  by_cases e:head c a=-1
  · rw[zAy e] at hx;simp at hx
  · rw[zAx e] at hx ⊢
    rw[List.getElem?_cons_succ] at hx
    rw[List.drop_succ_cons]
    exact zi2 h k _ (zd3 h ((z3d c a).1 ha).1 e) x hx
end Go.Proofs.YtonhfccmeammbaaGreatDoor
namespace Go.Proofs.YtonhfccmeammbaaGreatDoor
open Go.Ab
set_option maxHeartbeats 20000000
attribute [local irreducible] Run Ops Op1 z1x Val Tr z0m z1r NF Rel
structure Lf where
 op:Int
 a:Str
 b:Str
 name:Str
 mn:Int
 mx:Int
 args:List Str
def Lf.cs (g:Lf):List D:=[z3c g.op,z5p g.a,z5p g.b,z5p g.name,z5p ⟨#[]⟩,z5p ⟨#[]⟩,zhk false,z3c g.mn,z3c g.mx,strs g.args,.slice []]
abbrev Lf.d (g:Lf):PV:=.d (.agg g.cs)
theorem zwa (g:Lf) (h:g.op≠0):z0m Tryz.prog 57 [g.d] (B false):=by
 refine z10 fun H=>?_
 refine z0g Tryz.func57 (by kernel_rfl) rfl (by simp) ?_
 dsimp only[Tryz.f57]
 repeat' (first|(apply z04;(first|refine z0l ?_| (apply z0a;(refine z02 z18 rfl rfl ?_))|(apply z0d;(refine z02 z1a rfl rfl ?_))|(apply z0x;(first|refine z02 (z0y rfl) rfl rfl ?_| refine z02 (z7c rfl) rfl rfl ?_))|(apply z1c;(refine z0b z1q ?_))))|(apply z05;(first|refine z0k ?_|apply z09|refine z1m ?_| refine z1t (fun _=>?_) (fun _=>?_)))|(apply z06;(first|apply z07|apply z00)))
 all_goals first
  | (exfalso;omega)
  | exact z0c Tryz.func57 _ z1j ⟨rfl,rfl⟩
theorem zm2 (g:Lf):z0m Tryz.prog 58 [g.d,I .i64 0,I .i64 1] (.tup [I .i64 1,I .i64 1]):=by
 refine z10 fun H=>?_
 refine z0g Tryz.func58 (by kernel_rfl) rfl (by simp) ?_
 dsimp only[Tryz.f58]
 repeat' (first|(apply z04;(first|refine z0l ?_| (apply z0a;(refine z02 z18 rfl rfl ?_))|(apply z0d;(refine z02 z1a rfl rfl ?_))|(apply z0z;(refine z02 (z14 z1p) rfl rfl ?_))|(apply z0x;(refine z02 (z7c rfl) rfl rfl ?_))|(apply z1c;(refine z0b z1q ?_))))|(apply z05;(first|refine z0k ?_|apply z09))|(apply z06;(first|apply z07|apply z00|apply z01)))
 refine z0t ?_
 refine z3i ?_
 repeat' (first|(apply z04;(refine z0l ?_))|(apply z05;(first|refine z0k ?_|apply z09))|(apply z06;(first|apply z07|apply z00|refine z1f ?_| refine z0o ?_)))
 all_goals first
  | (exfalso;omega)
  | exact z0c Tryz.func58 _ z2m ⟨rfl,rfl⟩
theorem zpx (fv:PV):z0m Tryz.prog 91 [.d (.slice []),fv] (I .i64 (-1)):=by
 refine z10 fun H=>?_
 refine z0g Tryz.func91 (by kernel_rfl) rfl (by simp) ?_
 dsimp only[Tryz.f91]
 repeat' (first|(apply z04;(first|refine z0l ?_| (apply z0x;(refine z02 (z7c rfl) rfl rfl ?_))))|(apply z05;(first|refine z0k ?_|apply z09))|(apply z06;(first|apply z07|apply z00|apply z01)))
 refine z0t ?_
 refine z3i ?_
 repeat' (first|(apply z04;(refine z0l ?_))|(apply z05;(first|refine z0k ?_|apply z09))|(apply z06;(first|apply z07|apply z00|refine z1f ?_| refine z0o ?_)))
 all_goals first
  | (exfalso;omega)
  | exact z0c Tryz.func91 _ z1j ⟨rfl,rfl⟩
theorem zi0 (fv:PV):z0m Tryz.prog 63 [.d (.slice []),fv] (B false):=by
 refine z10 fun H=>?_
 refine z0g Tryz.func63 (by kernel_rfl) rfl (by simp) ?_
 dsimp only[Tryz.f63]
 repeat' (first|(apply z04;(first|refine z0l ?_| (apply z0j;(refine z2s (zpx _) ?_))))|(apply z05;(first|refine z0k ?_|apply z09))|(apply z06;(first|apply z07|apply z00)))
 all_goals first
  | (exfalso;omega)
  | exact z0c Tryz.func63 _ z1j ⟨rfl,rfl⟩
theorem zs0 (g:Lf) (h:g.op=6∨g.op=7∨g.op=8∨g.op=9∨g.op=10) (h1:g.op≠9→g.name=⟨#[]⟩) (h2:g.op≠10→g.mn=0∧g.mx=0) (h3:g.op≠8→g.args=[]) (h4:g.op=10→g.b=⟨#[]⟩) (hl:g.args.length≤1000000):z0m Tryz.prog 60 [g.d] (B true):=by
 refine z10 fun H=>?_
 refine z0g Tryz.func60 (by kernel_rfl) rfl (by simp) ?_
 dsimp only[Tryz.f60]
 obtain⟨op,a,b,name,mn,mx,args⟩:=g
 simp only at h h1 h2 h3 h4 hl
 rcases h with rfl|rfl|rfl|rfl|rfl
 · exact zD8
 · exact zD8
 · obtain rfl:=h1 (by decide);obtain⟨rfl,rfl⟩:=h2 (by decide)
   repeat' (first|(apply z04;(first|refine z0l ?_| (apply z0a;(refine z02 z18 rfl rfl ?_))|(apply z0d;(refine z02 z1a rfl rfl ?_))|(apply z0z;(refine z02 (zaw rfl) rfl rfl ?_))|(apply z0x;(first|refine z02 (z0y rfl) rfl rfl ?_| refine z02 (z7c rfl) rfl rfl ?_))|(apply z0f;(refine z2d ?_))|(apply z0i;(refine z0b z1e ?_))|(apply z1c;(refine z0b z1q ?_))|(apply z1i;(refine z2x ?_))))|(apply z05;(first|refine z0k ?_|apply z09|refine z1m ?_| refine z1t (fun _=>?_) (fun _=>?_)))|(apply z06;(first|apply z07|apply z00|refine z1b rfl ?_|refine z1f ?_| apply z01|apply z03)))
   all_goals exact zD16
 · obtain⟨rfl,rfl⟩:=h2 (by decide);obtain rfl:=h3 (by decide)
   repeat' (first|(apply z04;(first|refine z0l ?_| (apply z0a;(refine z02 z18 rfl rfl ?_))|(apply z0d;(refine z02 z1a rfl rfl ?_))|(apply z0z;(refine z02 (zaw rfl) rfl rfl ?_))|(apply z0x;(first|refine z02 (zbr rfl) rfl rfl ?_| refine z02 (z0y rfl) rfl rfl ?_| refine z02 (z7c rfl) rfl rfl ?_))|(apply z0f;(refine z2d ?_))|(apply z0i;(refine z0b z1e ?_))|(apply z1c;(refine z0b z1q ?_))|(apply z1i;(refine z2x ?_))))|(apply z05;(first|refine z0k ?_|apply z09|refine z1m ?_| refine z1t (fun _=>?_) (fun _=>?_)))|(apply z06;(first|apply z07|apply z00|refine z1b rfl ?_|refine z1f ?_| apply z01|apply z03)))
   all_goals exact zD16
 · obtain rfl:=h1 (by decide);obtain rfl:=h3 (by decide);obtain rfl:=h4 rfl
   repeat' (first|(apply z04;(first|refine z0l ?_| (apply z0a;(refine z02 z18 rfl rfl ?_))|(apply z0d;(refine z02 z1a rfl rfl ?_))|(apply z0z;(refine z02 (zaw rfl) rfl rfl ?_))|(apply z0x;(first|refine z02 (zbr rfl) rfl rfl ?_| refine z02 (z0y rfl) rfl rfl ?_| refine z02 (z7c rfl) rfl rfl ?_))|(apply z0f;(refine z2d ?_))|(apply z0i;(refine z0b z1e ?_))|(apply z1c;(refine z0b z1q ?_))|(apply z1i;(refine z2x ?_))))|(apply z05;(first|refine z0k ?_|apply z09|refine z1m ?_| refine z1t (fun _=>?_) (fun _=>?_)))|(apply z06;(first|apply z07|apply z00|refine z1b rfl ?_|refine z1f ?_| apply z01|apply z2z|apply z03))|(apply z2v;(first|(apply z1l;refine z2n mix ?_)|(apply z0u;(refine z0w z18 rfl rfl ?_))|(apply z0q;(refine z0w z1a rfl rfl ?_))|(apply z2k;(refine z5o (by first|exact rfl|exact⟨_,rfl,rfl,rfl⟩) rfl rfl rfl rfl rfl rfl ?_)))))
   all_goals exact zD16
end Go.Proofs.YtonhfccmeammbaaGreatDoor
