/- A part of the proof: T35 to T51. -/
import Derived.Test.YtonhfccmeammbaaGreatDoorOTC
import Derived.Test.YtonhfccmeammbaaGreatDoorOTE
import Derived.Test.YtonhfccmeammbaaGreatDoorOTA
import Derived.Test.YtonhfccmeammbaaGreatDoorOb
set_option linter.all false
namespace Go.Proofs.YtonhfccmeammbaaGreatDoor
open Go.Ab
set_option maxHeartbeats 20000000
attribute [local irreducible] Run Ops Op1 z1r Val Tr z0j z2f NF Rel
theorem zf2 (a b:z0i) (ha:Small a) (hb:Small b) (hpa:∀ (i:Nat) (x:Node),a.nodes[i]? =some x→-1≤x.parent∧x.parent<i) (hpb:∀ (i:Nat) (x:Node),b.nodes[i]? =some x→-1≤x.parent∧x.parent<i) (hh:∀ x∈b.heads,-1≤x∧x≤1000000):NF Tryz.prog 27 [a.d,b.d] (zk5 a b):=by
 refine z33 fun H=>?_
 refine z0e Tryz.func27 (by kernel_rfl) rfl (by simp) ?_
 dsimp only[Tryz.f27]
 have ha1:=ha.toks
 have hb1:=hb.toks
 have ha2:=ha.ntexts
 have hb2:=hb.ntexts
 have ha3:=ha.nregs
 have hb3:=hb.nregs
 have ha4:=ha.nnodes
 have hb4:=hb.nnodes
 have ha5:=ha.nheads
 have hb5:=hb.nheads
 have ha6:=ha.nattrs
 have ha7:=zb6 ha5 ha1
 have hb7:=zb6 hb5 hb1
 have ha8:=zbi ha.nrels ha1
 have hb8:=zbi hb.nrels hb1
 repeat' (first|(apply z05;(first|refine z0r ?_| (apply z0c;(first|refine z02 z2u rfl rfl ?_| refine z02 z1k rfl rfl ?_))|(apply z0d;(refine z02 z1h rfl rfl ?_))|(apply z12;(refine z02 (z0u rfl) rfl rfl ?_))|(apply z0w;(first|(refine z4n (zbr a ha hpa) rfl (by decide) (fun p hp=>?_);obtain⟨_,rfl⟩:=hp)|(refine z4n (zbr b hb hpb) rfl (by decide) (fun p hp=>?_);obtain⟨_,rfl⟩:=hp)|(refine z4n (zad _ _ ha.nattrs hb.nattrs) rfl (by decide) (fun p hp=>?_);obtain⟨_,rfl⟩:=hp)))|(apply z0n;(refine z26 ?_))|(apply z18;(refine z0g z2g ?_))|(apply z1j;(refine z0g z31 ?_))|(apply z21;(refine z43 ?_))))|(apply z06;(first|refine z0q ?_|(apply z22;refine z23 [0,1,2,3,4,5,7,8,9,10,11,12,13,14,15,16,17,19,27,34,37,38,39,40,47,89,116,153,188,217,235,254,255,256,257,261,100500,100501] (by repeat' (first|exact z1f.nil|apply z1f.yes rfl|apply z1f.no)) (by repeat' (first|exact z0f.nil|apply z0f.old rfl|apply z0f.gone|apply z0f.new rfl)) ?_)|refine z1z ?_| refine z7e rfl rfl (fun _=>?_) (fun _=>?_)))|(apply z07;(first|apply z08|apply z00|refine z28 rfl ?_|apply z09|apply z01|refine z1u rfl (fun _=>?_) (fun _=>?_))))
 all_goals try (first|(first|exact z0a Tryz.func27 _ (z0h rfl rfl rfl rfl rfl rfl rfl) ⟨_,rfl,Or.inl ⟨_,(by decide),rfl⟩,rfl⟩|(have e0:¬ 0<a.heads.length+b.heads.length:=(by omega);exact z0a Tryz.func27 _ (z0h rfl rfl rfl rfl rfl rfl rfl) ⟨_,rfl,Or.inr (by rw[cat,zAr e0,zAr e0];rfl),rfl⟩)|(have e0:0<a.heads.length+b.heads.length:=(by omega);exact z0a Tryz.func27 _ (z0h rfl rfl rfl rfl rfl rfl rfl) ⟨_,rfl,Or.inr (by rw[cat,zAs e0,zAs e0];rfl),rfl⟩))|(exfalso;(try clear ih1);(try clear ih2);(try clear ih3);(try clear ih4);(try clear ih5);(try clear hm12);omega)|((fail_if_success (refine z0k ?_));exfalso;(try clear ih1);(try clear ih2);(try clear ih3);(try clear ih4);(try clear ih5);(try clear hm12);simp_all;done))
 all_goals
  refine z0k ?_
  refine z03 (z1x (fun k1:Nat=>⟨273,[(2,PV.ptr (0,2) 0),(3,PV.ptr (0,3) 0),(4,PV.ptr (0,4) 0),(37,PV.d (D.slice (List.map Text.cs b.texts))),(38,I IntKind.i64 (↑b.texts.length:Int)),(39,I .i64 (k1:Nat))],[(2,Blk.box (List.map PV.d a.cs)),(3,Blk.box (List.map PV.d b.cs)),(4,Blk.box (z3g ({ size:=7,bytes:=168,kind:=TK.struct,fields:=[(0,1),(1,1),(2,1),(3,1),(4,1),(5,1),(6,1)],zero:=[z13,z13,z13,z13,z13,z13,z13] }:TI).zero))],H⟩) (fun k1:Nat=>k1≤b.texts.length) (fun k1:Nat=>b.texts.length-k1) ?_ 0 (zAc _)) rfl rfl
  intro k1 hk1 ih1
  by_cases hlt1:k1<b.texts.length
  case pos =>
   obtain⟨x1,hx1⟩:∃ x,b.texts[k1]? =some x:=⟨_,zA0 (by omega)⟩
   repeat' (first|(apply z05;(first|refine z0r ?_| (apply z0c;(first|refine z02 z2u rfl rfl ?_| refine z02 z1k rfl rfl ?_| refine z02 (z1t rfl rfl) rfl rfl ?_))|(apply z0d;(refine z02 z1h rfl rfl ?_))|(apply z0o;(refine z02 (z1p rfl (idx hx1)) rfl rfl ?_))|(apply z15;(refine z02 (z1a z1y) rfl rfl ?_))|(apply z12;(first|(refine zbm (d:=93) rfl rfl rfl (fun _=>rfl) (by decide) rfl (by decide) (by omega) ?_;refine zby 93 rfl ?_)|refine z02 (z0u rfl) rfl rfl ?_))|(apply z0w;((refine z4n (zce _ _ ha) rfl (by decide) (fun p hp=>?_);obtain⟨_,rfl⟩:=hp)))|(apply z0n;(refine z26 ?_))|(apply z18;(refine z0g z2g ?_))|(apply z21;(refine z43 ?_))))|(apply z06;(first|refine z0q ?_|(apply z22;refine z23 [0,1,2,3,4,5,7,8,9,10,11,12,13,14,15,16,17,19,27,34,37,38,39,40,47,89,116,153,188,217,235,254,255,256,257,261,100500,100501] (by repeat' (first|exact z1f.nil|apply z1f.yes rfl|apply z1f.no)) (by repeat' (first|exact z0f.nil|apply z0f.old rfl|apply z0f.gone|apply z0f.new rfl)) ?_)|refine z1z ?_| refine z14 rfl rfl (fun _=>?_) (fun _=>?_)))|(apply z07;(first|(refine z6n (b:= ?_) hm12 ?_ ?_ ?_;rotate_left;(exact rfl);(exact rfl);(exact rfl))|refine z42 12 89 (fun b12=>?_) (fun hm12=>?_)|apply z08|apply z00|apply z09|apply z01|apply z2w|apply z04|refine z0m (fun _=>?_) (fun _=>?_)| refine z1u rfl (fun _=>?_) (fun _=>?_)|refine z0p ?_))|(apply z2t;(first|(apply z1e;refine z51 [0,1,2,3,4,5,7,8,9,10,11,12,13,14,15,16,17,19,27,34,37,38,39,40,47,89,116,153,188,217,235,254,255,256,257,261,100500,100501] mix (by kernel_rfl) (by repeat' (first|exact z1f.nil|apply z1f.yes rfl|apply z1f.no)) (by repeat' (first|exact z0f.nil|apply z0f.old rfl|apply z0f.gone|apply z0f.new rfl)) ?_)|refine z34 ?_| (apply z0z;(refine z0y z1k rfl rfl ?_))|(apply z0v;(refine z0y z1h rfl rfl ?_))|(apply z2r;(first|refine z88 (by first|exact rfl|exact⟨_,rfl,rfl,rfl⟩) rfl rfl rfl (fun _=>rfl) (by decide) rfl (by decide) (by omega) ?_|refine z6i (by first|exact rfl|exact⟨_,rfl,rfl,rfl⟩) rfl rfl rfl rfl rfl (fun _=>rfl) (by decide) rfl (by decide) (by omega) ?_|refine z0y (z0u rfl) rfl rfl ?_))|(apply z2h;(refine z3k (by first|exact rfl|exact⟨_,rfl,rfl,rfl⟩) rfl rfl rfl rfl rfl ?_)))))
   all_goals try (first|(first|exact z0a Tryz.func27 _ (z0h rfl rfl rfl rfl rfl rfl rfl) ⟨_,rfl,Or.inl ⟨_,(by decide),rfl⟩,rfl⟩|(have e0:¬ 0<a.heads.length+b.heads.length:=(by omega);exact z0a Tryz.func27 _ (z0h rfl rfl rfl rfl rfl rfl rfl) ⟨_,rfl,Or.inr (by rw[cat,zAr e0,zAr e0];rfl),rfl⟩)|(have e0:0<a.heads.length+b.heads.length:=(by omega);exact z0a Tryz.func27 _ (z0h rfl rfl rfl rfl rfl rfl rfl) ⟨_,rfl,Or.inr (by rw[cat,zAs e0,zAs e0];rfl),rfl⟩))|exact z03 (ih1 (k1+1) (by omega) (by omega)) rfl rfl|(exfalso;(try clear ih1);(try clear ih2);(try clear ih3);(try clear ih4);(try clear ih5);(try clear hm12);omega)|((fail_if_success (refine z0k ?_));exfalso;(try clear ih1);(try clear ih2);(try clear ih3);(try clear ih4);(try clear ih5);(try clear hm12);simp_all;done))
  case neg =>
   repeat' (first|(apply z05;(first|refine z0r ?_| (apply z0c;(refine z02 z1k rfl rfl ?_))|(apply z0d;(refine z02 z1h rfl rfl ?_))|(apply z15;(refine z02 (z1a z1y) rfl rfl ?_))|(apply z12;(first|(refine zbm (d:=93) rfl rfl rfl (fun _=>rfl) (by decide) rfl (by decide) (by omega) ?_;refine zby 93 rfl ?_)|refine z02 (z0u rfl) rfl rfl ?_))|(apply z0n;(refine z26 ?_))|(apply z18;(refine z0g z2g ?_))|(apply z21;(refine z43 ?_))))|(apply z06;(first|refine z0q ?_|(apply z22;refine z23 [0,1,2,3,4,5,7,8,9,10,11,12,13,14,15,16,17,19,27,34,37,38,39,40,47,89,116,153,188,217,235,254,255,256,257,261,100500,100501] (by repeat' (first|exact z1f.nil|apply z1f.yes rfl|apply z1f.no)) (by repeat' (first|exact z0f.nil|apply z0f.old rfl|apply z0f.gone|apply z0f.new rfl)) ?_)|refine z1z ?_| refine z14 rfl rfl (fun _=>?_) (fun _=>?_)))|(apply z07;(first|(refine z6n (b:= ?_) hm12 ?_ ?_ ?_;rotate_left;(exact rfl);(exact rfl);(exact rfl))|refine z42 12 89 (fun b12=>?_) (fun hm12=>?_)|apply z08|apply z00|apply z09|apply z01|apply z2w|refine z0m (fun _=>?_) (fun _=>?_)| refine z1u rfl (fun _=>?_) (fun _=>?_)|refine z0p ?_))|(apply z2t;(first|(apply z1e;refine z51 [0,1,2,3,4,5,7,8,9,10,11,12,13,14,15,16,17,19,27,34,37,38,39,40,47,89,116,153,188,217,235,254,255,256,257,261,100500,100501] mix (by kernel_rfl) (by repeat' (first|exact z1f.nil|apply z1f.yes rfl|apply z1f.no)) (by repeat' (first|exact z0f.nil|apply z0f.old rfl|apply z0f.gone|apply z0f.new rfl)) ?_)|refine z34 ?_| (apply z0z;(refine z0y z1k rfl rfl ?_))|(apply z0v;(refine z0y z1h rfl rfl ?_))|(apply z2r;(first|refine z88 (by first|exact rfl|exact⟨_,rfl,rfl,rfl⟩) rfl rfl rfl (fun _=>rfl) (by decide) rfl (by decide) (by omega) ?_|refine z6i (by first|exact rfl|exact⟨_,rfl,rfl,rfl⟩) rfl rfl rfl rfl rfl (fun _=>rfl) (by decide) rfl (by decide) (by omega) ?_|refine z0y (z0u rfl) rfl rfl ?_))|(apply z2h;(refine z3k (by first|exact rfl|exact⟨_,rfl,rfl,rfl⟩) rfl rfl rfl rfl rfl ?_)))))
   all_goals try (first|(first|exact z0a Tryz.func27 _ (z0h rfl rfl rfl rfl rfl rfl rfl) ⟨_,rfl,Or.inl ⟨_,(by decide),rfl⟩,rfl⟩|(have e0:¬ 0<a.heads.length+b.heads.length:=(by omega);exact z0a Tryz.func27 _ (z0h rfl rfl rfl rfl rfl rfl rfl) ⟨_,rfl,Or.inr (by rw[cat,zAr e0,zAr e0];rfl),rfl⟩)|(have e0:0<a.heads.length+b.heads.length:=(by omega);exact z0a Tryz.func27 _ (z0h rfl rfl rfl rfl rfl rfl rfl) ⟨_,rfl,Or.inr (by rw[cat,zAs e0,zAs e0];rfl),rfl⟩))|(exfalso;(try clear ih1);(try clear ih2);(try clear ih3);(try clear ih4);(try clear ih5);(try clear hm12);omega)|((fail_if_success (refine z0k ?_));exfalso;(try clear ih1);(try clear ih2);(try clear ih3);(try clear ih4);(try clear ih5);(try clear hm12);simp_all;done))
   all_goals
    refine z11 100 rfl ?_
    refine z0k ?_
    refine z03 (z1x (fun k2:Nat=>⟨273,[(2,PV.ptr (0,2) 0),(3,PV.ptr (0,3) 0),(4,PV.ptr (0,4) 0),(8,PV.d (D.lit (Value.int IntKind.i64 (↑a.tokens.length:Int)))),(9,PV.d (D.lit (Value.int IntKind.i64 (↑a.nodes.length:Int)))),(10,PV.ptr (0,10) 0),(11,I .i64 ((a.texts.length+k2:Nat):Int))],[(2,Blk.box [PV.d (D.slice (List.map Attr.cs a.attrs)),PV.d (D.slice (List.map (fun t=>[strs t]) a.tokens)),PV.d (D.slice (List.map Text.cs a.texts)),PV.d (D.slice (List.map Region.cs a.regions)),PV.d (D.slice (List.map Node.cs a.nodes)),PV.d (ints a.heads),PV.d (strs a.rels)]),(10,Blk.box [PV.d (D.slice (List.map Attr.cs a.attrs)),PV.d (D.slice (List.map (fun t=>[strs t]) (a.tokens++b.tokens))),PV.ref (0,107),PV.d (D.lit z13),PV.d (D.lit z13),PV.d (D.lit z13),PV.d (D.lit z13)]),(3,Blk.box [PV.d (D.slice (List.map Attr.cs b.attrs)),PV.d (D.slice (List.map (fun t=>[strs t]) b.tokens)),PV.d (D.slice (List.map Text.cs b.texts)),PV.d (D.slice (List.map Region.cs b.regions)),PV.d (D.slice (List.map Node.cs b.nodes)),PV.d (ints b.heads),PV.d (strs b.rels)]),(4,Blk.box [PV.d (D.lit z13),PV.d (D.lit z13),PV.d (D.lit z13),PV.d (D.lit z13),PV.d (D.lit z13),PV.d (D.lit z13),PV.d (D.lit z13)]),(107,.row 66 4 ((mid a.texts b.texts (shT a.tokens.length) k2).map Text.cs))],H⟩) (fun k2:Nat=>k2≤b.texts.length) (fun k2:Nat=>b.texts.length-k2) ?_ 0 (zAc _)) rfl rfl
    intro k2 hk2 ih2
    have hl2:(mid a.texts b.texts (shT a.tokens.length) k2).length=a.texts.length+b.texts.length:=z4s _ _ _ _
    by_cases hlt2:k2<b.texts.length
    case pos =>
     obtain⟨x2,hx2⟩:∃ x,b.texts[k2]? =some x:=⟨_,zA0 (by omega)⟩
     have hs2:=hb.text x2 (zA2 hx2)
     have hg2a:(mid a.texts b.texts (shT a.tokens.length) k2)[((a.texts.length+k2:Nat):Int).toNat]? =some x2:=zar hx2
     have hg2b:((mid a.texts b.texts (shT a.tokens.length) k2).set ((a.texts.length+k2:Nat):Int).toNat (⟨x2.name,x2.b+(a.tokens.length:Int),x2.e,x2.meta_⟩:Text))[((a.texts.length+k2:Nat):Int).toNat]? =some (⟨x2.name,x2.b+(a.tokens.length:Int),x2.e,x2.meta_⟩:Text):=z55 (by omega)
     repeat' (first|(apply z05;(first|refine z0r ?_| (apply z0c;(first|refine z02 (z1i hg2a rfl rfl rfl) rfl rfl ?_| refine z02 (z1i hg2b rfl rfl rfl) rfl rfl ?_| refine z02 z1k rfl rfl ?_))|(apply z0d;(first|refine z02 z1h rfl rfl ?_| refine z02 (z3z rfl rfl) rfl rfl ?_))|(apply z0o;(refine z02 (z1d rfl (by omega) (by first|(simp only[zA4];omega)|(simp only[zA4,List.length_set];omega)) rfl) rfl rfl ?_))|(apply z15;(first|refine z02 (z1a (ziu (by simp only;omega) (by simp only;omega))) rfl rfl ?_| refine z02 (z1a z1y) rfl rfl ?_))|(apply z12;(first|refine z02 (z0u rfl) rfl rfl ?_| refine z02 (z2n rfl) rfl rfl ?_))|(apply z0n;(first|refine z1b (⟨x2.name,x2.b+(a.tokens.length:Int),x2.e,x2.meta_⟩:Text) (by rfl) (by rfl) (by rfl) (by rfl) hg2a (by rfl) (by rfl) (by rfl) (by rfl) ?_|refine z1b (⟨x2.name,x2.b+(a.tokens.length:Int),x2.e+(a.tokens.length:Int),x2.meta_⟩:Text) (by rfl) (by rfl) (by rfl) (by rfl) hg2b (by rfl) (by rfl) (by rfl) (z92 hx2) ?_))))|(apply z06;(first|refine z0q ?_|(apply z22;refine z23 [0,1,2,3,4,5,7,8,9,10,11,12,13,14,15,16,17,19,27,34,37,38,39,40,47,89,116,153,188,217,235,254,255,256,257,261,100500,100501] (by repeat' (first|exact z1f.nil|apply z1f.yes rfl|apply z1f.no)) (by repeat' (first|exact z0f.nil|apply z0f.old rfl|apply z0f.gone|apply z0f.new rfl)) ?_)))|(apply z07;(first|apply z08|apply z00|apply z09|apply z01|apply z2w|apply z04|refine z0m (fun _=>?_) (fun _=>?_)| refine z0p ?_))|(apply z2t;(first|(apply z1e;refine z51 [0,1,2,3,4,5,7,8,9,10,11,12,13,14,15,16,17,19,27,34,37,38,39,40,47,89,116,153,188,217,235,254,255,256,257,261,100500,100501] mix (by kernel_rfl) (by repeat' (first|exact z1f.nil|apply z1f.yes rfl|apply z1f.no)) (by repeat' (first|exact z0f.nil|apply z0f.old rfl|apply z0f.gone|apply z0f.new rfl)) ?_)|(apply z0z;(refine z0y z1k rfl rfl ?_))|(apply z0v;(refine z0y z1h rfl rfl ?_))|(apply z2r;(first|refine z88 (by first|exact rfl|exact⟨_,rfl,rfl,rfl⟩) rfl rfl rfl (fun _=>rfl) (by decide) rfl (by decide) (by omega) ?_|refine z6i (by first|exact rfl|exact⟨_,rfl,rfl,rfl⟩) rfl rfl rfl rfl rfl (fun _=>rfl) (by decide) rfl (by decide) (by omega) ?_))|(apply z2h;(refine z3k (by first|exact rfl|exact⟨_,rfl,rfl,rfl⟩) rfl rfl rfl rfl rfl ?_)))))
     all_goals try (first|(first|exact z0a Tryz.func27 _ (z0h rfl rfl rfl rfl rfl rfl rfl) ⟨_,rfl,Or.inl ⟨_,(by decide),rfl⟩,rfl⟩|(have e0:¬ 0<a.heads.length+b.heads.length:=(by omega);exact z0a Tryz.func27 _ (z0h rfl rfl rfl rfl rfl rfl rfl) ⟨_,rfl,Or.inr (by rw[cat,zAr e0,zAr e0];rfl),rfl⟩)|(have e0:0<a.heads.length+b.heads.length:=(by omega);exact z0a Tryz.func27 _ (z0h rfl rfl rfl rfl rfl rfl rfl) ⟨_,rfl,Or.inr (by rw[cat,zAs e0,zAs e0];rfl),rfl⟩))|exact z03 (ih2 (k2+1) (by omega) (by omega)) rfl rfl|(exfalso;(try clear ih1);(try clear ih2);(try clear ih3);(try clear ih4);(try clear ih5);(try clear hm12);omega)|((fail_if_success (refine z0k ?_));exfalso;(try clear ih1);(try clear ih2);(try clear ih3);(try clear ih4);(try clear ih5);(try clear hm12);simp_all;done))
    case neg =>
     repeat' (first|(apply z05;(first|refine z0r ?_| (apply z0c;(refine z02 z1k rfl rfl ?_))|(apply z0d;(refine z02 z1h rfl rfl ?_))|(apply z12;(first|refine z02 (z0u rfl) rfl rfl ?_| refine z02 (z2n rfl) rfl rfl ?_))))|(apply z06;(first|refine z0q ?_|(apply z22;refine z23 [0,1,2,3,4,5,7,8,9,10,11,12,13,14,15,16,17,19,27,34,37,38,39,40,47,89,116,153,188,217,235,254,255,256,257,261,100500,100501] (by repeat' (first|exact z1f.nil|apply z1f.yes rfl|apply z1f.no)) (by repeat' (first|exact z0f.nil|apply z0f.old rfl|apply z0f.gone|apply z0f.new rfl)) ?_)))|(apply z07;(first|apply z08|apply z00|apply z09|apply z01|apply z2w|refine z0m (fun _=>?_) (fun _=>?_)| refine z0p ?_))|(apply z2t;(first|(apply z1e;refine z51 [0,1,2,3,4,5,7,8,9,10,11,12,13,14,15,16,17,19,27,34,37,38,39,40,47,89,116,153,188,217,235,254,255,256,257,261,100500,100501] mix (by kernel_rfl) (by repeat' (first|exact z1f.nil|apply z1f.yes rfl|apply z1f.no)) (by repeat' (first|exact z0f.nil|apply z0f.old rfl|apply z0f.gone|apply z0f.new rfl)) ?_)|(apply z0z;(refine z0y z1k rfl rfl ?_))|(apply z0v;(refine z0y z1h rfl rfl ?_))|(apply z2r;(first|refine z88 (by first|exact rfl|exact⟨_,rfl,rfl,rfl⟩) rfl rfl rfl (fun _=>rfl) (by decide) rfl (by decide) (by omega) ?_|refine z6i (by first|exact rfl|exact⟨_,rfl,rfl,rfl⟩) rfl rfl rfl rfl rfl (fun _=>rfl) (by decide) rfl (by decide) (by omega) ?_))|(apply z2h;(refine z3k (by first|exact rfl|exact⟨_,rfl,rfl,rfl⟩) rfl rfl rfl rfl rfl ?_)))))
     all_goals try (first|(first|exact z0a Tryz.func27 _ (z0h rfl rfl rfl rfl rfl rfl rfl) ⟨_,rfl,Or.inl ⟨_,(by decide),rfl⟩,rfl⟩|(have e0:¬ 0<a.heads.length+b.heads.length:=(by omega);exact z0a Tryz.func27 _ (z0h rfl rfl rfl rfl rfl rfl rfl) ⟨_,rfl,Or.inr (by rw[cat,zAr e0,zAr e0];rfl),rfl⟩)|(have e0:0<a.heads.length+b.heads.length:=(by omega);exact z0a Tryz.func27 _ (z0h rfl rfl rfl rfl rfl rfl rfl) ⟨_,rfl,Or.inr (by rw[cat,zAs e0,zAs e0];rfl),rfl⟩))|(exfalso;(try clear ih1);(try clear ih2);(try clear ih3);(try clear ih4);(try clear ih5);(try clear hm12);omega)|((fail_if_success (refine z0k ?_));exfalso;(try clear ih1);(try clear ih2);(try clear ih3);(try clear ih4);(try clear ih5);(try clear hm12);simp_all;done))
     all_goals
      obtain rfl:k2=b.texts.length:=(by omega)
      refine z11 107 rfl ?_
      refine z0k ?_
      refine z03 (z1x (fun k3:Nat=>⟨273,[(2,PV.ptr (0,2) 0),(3,PV.ptr (0,3) 0),(4,PV.ptr (0,4) 0),(8,PV.d (D.lit (Value.int IntKind.i64 (↑a.tokens.length:Int)))),(9,PV.d (D.lit (Value.int IntKind.i64 (↑a.nodes.length:Int)))),(10,PV.ptr (0,10) 0),(12,I .i64 ((a.regions.length+k3:Nat):Int))],[(2,Blk.box [PV.d (D.slice (List.map Attr.cs a.attrs)),PV.d (D.slice (List.map (fun t=>[strs t]) a.tokens)),PV.d (D.slice (List.map Text.cs a.texts)),PV.d (D.slice (List.map Region.cs a.regions)),PV.d (D.slice (List.map Node.cs a.nodes)),PV.d (ints a.heads),PV.d (strs a.rels)]),(10,Blk.box [PV.d (D.slice (List.map Attr.cs a.attrs)),PV.d (D.slice (List.map (fun t=>[strs t]) (a.tokens++b.tokens))),PV.d (D.slice (List.map Text.cs (mid a.texts b.texts (shT (↑a.tokens.length:Int)) b.texts.length))),PV.ref (0,144),PV.d (D.lit z13),PV.d (D.lit z13),PV.d (D.lit z13)]),(3,Blk.box [PV.d (D.slice (List.map Attr.cs b.attrs)),PV.d (D.slice (List.map (fun t=>[strs t]) b.tokens)),PV.d (D.slice (List.map Text.cs b.texts)),PV.d (D.slice (List.map Region.cs b.regions)),PV.d (D.slice (List.map Node.cs b.nodes)),PV.d (ints b.heads),PV.d (strs b.rels)]),(4,Blk.box [PV.d (D.lit z13),PV.d (D.lit z13),PV.d (D.lit z13),PV.d (D.lit z13),PV.d (D.lit z13),PV.d (D.lit z13),PV.d (D.lit z13)]),(144,.row 84 4 ((mid a.regions b.regions (shR a.tokens.length) k3).map Region.cs))],H⟩) (fun k3:Nat=>k3≤b.regions.length) (fun k3:Nat=>b.regions.length-k3) ?_ 0 (zAc _)) rfl rfl
      intro k3 hk3 ih3
      have hl3:(mid a.regions b.regions (shR a.tokens.length) k3).length=a.regions.length+b.regions.length:=z4s _ _ _ _
      by_cases hlt3:k3<b.regions.length
      case pos =>
       obtain⟨x3,hx3⟩:∃ x,b.regions[k3]? =some x:=⟨_,zA0 (by omega)⟩
       have hs3:=hb.reg x3 (zA2 hx3)
       have hg3a:(mid a.regions b.regions (shR a.tokens.length) k3)[((a.regions.length+k3:Nat):Int).toNat]? =some x3:=zar hx3
       have hg3b:((mid a.regions b.regions (shR a.tokens.length) k3).set ((a.regions.length+k3:Nat):Int).toNat (⟨x3.type,x3.b+(a.tokens.length:Int),x3.e,x3.keys⟩:Region))[((a.regions.length+k3:Nat):Int).toNat]? =some (⟨x3.type,x3.b+(a.tokens.length:Int),x3.e,x3.keys⟩:Region):=z55 (by omega)
       repeat' (first|(apply z05;(first|refine z0r ?_| (apply z0c;(first|refine z02 (z1i hg3a rfl rfl rfl) rfl rfl ?_| refine z02 (z1i hg3b rfl rfl rfl) rfl rfl ?_| refine z02 z1k rfl rfl ?_))|(apply z0d;(first|refine z02 z1h rfl rfl ?_| refine z02 (z3z rfl rfl) rfl rfl ?_))|(apply z0o;(refine z02 (z1d rfl (by omega) (by first|(simp only[zA4];omega)|(simp only[zA4,List.length_set];omega)) rfl) rfl rfl ?_))|(apply z15;(first|refine z02 (z1a (ziu (by simp only;omega) (by simp only;omega))) rfl rfl ?_| refine z02 (z1a z1y) rfl rfl ?_))|(apply z12;(refine z02 (z2n rfl) rfl rfl ?_))|(apply z0n;(first|refine z1b (⟨x3.type,x3.b+(a.tokens.length:Int),x3.e,x3.keys⟩:Region) (by rfl) (by rfl) (by rfl) (by rfl) hg3a (by rfl) (by rfl) (by rfl) (by rfl) ?_|refine z1b (⟨x3.type,x3.b+(a.tokens.length:Int),x3.e+(a.tokens.length:Int),x3.keys⟩:Region) (by rfl) (by rfl) (by rfl) (by rfl) hg3b (by rfl) (by rfl) (by rfl) (z92 hx3) ?_))))|(apply z06;(first|refine z0q ?_|(apply z22;refine z23 [0,1,2,3,4,5,7,8,9,10,11,12,13,14,15,16,17,19,27,34,37,38,39,40,47,89,116,153,188,217,235,254,255,256,257,261,100500,100501] (by repeat' (first|exact z1f.nil|apply z1f.yes rfl|apply z1f.no)) (by repeat' (first|exact z0f.nil|apply z0f.old rfl|apply z0f.gone|apply z0f.new rfl)) ?_)))|(apply z07;(first|apply z08|apply z00|apply z09|apply z01|apply z2w|apply z04|refine z0m (fun _=>?_) (fun _=>?_)| refine z0p ?_))|(apply z2t;(first|(apply z1e;refine z51 [0,1,2,3,4,5,7,8,9,10,11,12,13,14,15,16,17,19,27,34,37,38,39,40,47,89,116,153,188,217,235,254,255,256,257,261,100500,100501] mix (by kernel_rfl) (by repeat' (first|exact z1f.nil|apply z1f.yes rfl|apply z1f.no)) (by repeat' (first|exact z0f.nil|apply z0f.old rfl|apply z0f.gone|apply z0f.new rfl)) ?_)|(apply z0z;(refine z0y z1k rfl rfl ?_))|(apply z0v;(refine z0y z1h rfl rfl ?_))|(apply z2r;(first|refine z88 (by first|exact rfl|exact⟨_,rfl,rfl,rfl⟩) rfl rfl rfl (fun _=>rfl) (by decide) rfl (by decide) (by omega) ?_|refine z6i (by first|exact rfl|exact⟨_,rfl,rfl,rfl⟩) rfl rfl rfl rfl rfl (fun _=>rfl) (by decide) rfl (by decide) (by omega) ?_))|(apply z2h;(refine z3k (by first|exact rfl|exact⟨_,rfl,rfl,rfl⟩) rfl rfl rfl rfl rfl ?_)))))
       all_goals try (first|(first|exact z0a Tryz.func27 _ (z0h rfl rfl rfl rfl rfl rfl rfl) ⟨_,rfl,Or.inl ⟨_,(by decide),rfl⟩,rfl⟩|(have e0:¬ 0<a.heads.length+b.heads.length:=(by omega);exact z0a Tryz.func27 _ (z0h rfl rfl rfl rfl rfl rfl rfl) ⟨_,rfl,Or.inr (by rw[cat,zAr e0,zAr e0];rfl),rfl⟩)|(have e0:0<a.heads.length+b.heads.length:=(by omega);exact z0a Tryz.func27 _ (z0h rfl rfl rfl rfl rfl rfl rfl) ⟨_,rfl,Or.inr (by rw[cat,zAs e0,zAs e0];rfl),rfl⟩))|exact z03 (ih3 (k3+1) (by omega) (by omega)) rfl rfl|(exfalso;(try clear ih1);(try clear ih2);(try clear ih3);(try clear ih4);(try clear ih5);(try clear hm12);omega)|((fail_if_success (refine z0k ?_));exfalso;(try clear ih1);(try clear ih2);(try clear ih3);(try clear ih4);(try clear ih5);(try clear hm12);simp_all;done))
      case neg =>
       repeat' (first|(apply z05;(first|refine z0r ?_| (apply z0c;(refine z02 z1k rfl rfl ?_))|(apply z0d;(refine z02 z1h rfl rfl ?_))|(apply z12;(refine z02 (z2n rfl) rfl rfl ?_))))|(apply z06;(first|refine z0q ?_|(apply z22;refine z23 [0,1,2,3,4,5,7,8,9,10,11,12,13,14,15,16,17,19,27,34,37,38,39,40,47,89,116,153,188,217,235,254,255,256,257,261,100500,100501] (by repeat' (first|exact z1f.nil|apply z1f.yes rfl|apply z1f.no)) (by repeat' (first|exact z0f.nil|apply z0f.old rfl|apply z0f.gone|apply z0f.new rfl)) ?_)))|(apply z07;(first|apply z08|apply z00|apply z09|apply z01|apply z2w|refine z0m (fun _=>?_) (fun _=>?_)| refine z0p ?_))|(apply z2t;(first|(apply z1e;refine z51 [0,1,2,3,4,5,7,8,9,10,11,12,13,14,15,16,17,19,27,34,37,38,39,40,47,89,116,153,188,217,235,254,255,256,257,261,100500,100501] mix (by kernel_rfl) (by repeat' (first|exact z1f.nil|apply z1f.yes rfl|apply z1f.no)) (by repeat' (first|exact z0f.nil|apply z0f.old rfl|apply z0f.gone|apply z0f.new rfl)) ?_)|(apply z0z;(refine z0y z1k rfl rfl ?_))|(apply z0v;(refine z0y z1h rfl rfl ?_))|(apply z2r;(first|refine z88 (by first|exact rfl|exact⟨_,rfl,rfl,rfl⟩) rfl rfl rfl (fun _=>rfl) (by decide) rfl (by decide) (by omega) ?_|refine z6i (by first|exact rfl|exact⟨_,rfl,rfl,rfl⟩) rfl rfl rfl rfl rfl (fun _=>rfl) (by decide) rfl (by decide) (by omega) ?_))|(apply z2h;(refine z3k (by first|exact rfl|exact⟨_,rfl,rfl,rfl⟩) rfl rfl rfl rfl rfl ?_)))))
       all_goals try (first|(first|exact z0a Tryz.func27 _ (z0h rfl rfl rfl rfl rfl rfl rfl) ⟨_,rfl,Or.inl ⟨_,(by decide),rfl⟩,rfl⟩|(have e0:¬ 0<a.heads.length+b.heads.length:=(by omega);exact z0a Tryz.func27 _ (z0h rfl rfl rfl rfl rfl rfl rfl) ⟨_,rfl,Or.inr (by rw[cat,zAr e0,zAr e0];rfl),rfl⟩)|(have e0:0<a.heads.length+b.heads.length:=(by omega);exact z0a Tryz.func27 _ (z0h rfl rfl rfl rfl rfl rfl rfl) ⟨_,rfl,Or.inr (by rw[cat,zAs e0,zAs e0];rfl),rfl⟩))|(exfalso;(try clear ih1);(try clear ih2);(try clear ih3);(try clear ih4);(try clear ih5);(try clear hm12);omega)|((fail_if_success (refine z0k ?_));exfalso;(try clear ih1);(try clear ih2);(try clear ih3);(try clear ih4);(try clear ih5);(try clear hm12);simp_all;done))
       all_goals
        obtain rfl:k3=b.regions.length:=(by omega)
        refine z11 144 rfl ?_
        refine z0k ?_
        refine z03 (z1x (fun k4:Nat=>⟨273,[(2,PV.ptr (0,2) 0),(3,PV.ptr (0,3) 0),(4,PV.ptr (0,4) 0),(8,PV.d (D.lit (Value.int IntKind.i64 (↑a.tokens.length:Int)))),(9,PV.d (D.lit (Value.int IntKind.i64 (↑a.nodes.length:Int)))),(10,PV.ptr (0,10) 0),(13,I .i64 ((a.nodes.length+k4:Nat):Int))],[(2,Blk.box [PV.d (D.slice (List.map Attr.cs a.attrs)),PV.d (D.slice (List.map (fun t=>[strs t]) a.tokens)),PV.d (D.slice (List.map Text.cs a.texts)),PV.d (D.slice (List.map Region.cs a.regions)),PV.d (D.slice (List.map Node.cs a.nodes)),PV.d (ints a.heads),PV.d (strs a.rels)]),(10,Blk.box [PV.d (D.slice (List.map Attr.cs a.attrs)),PV.d (D.slice (List.map (fun t=>[strs t]) (a.tokens++b.tokens))),PV.d (D.slice (List.map Text.cs (mid a.texts b.texts (shT (↑a.tokens.length:Int)) b.texts.length))),PV.d (D.slice (List.map Region.cs (mid a.regions b.regions (shR (↑a.tokens.length:Int)) b.regions.length))),PV.ref (0,181),PV.d (D.lit z13),PV.d (D.lit z13)]),(3,Blk.box [PV.d (D.slice (List.map Attr.cs b.attrs)),PV.d (D.slice (List.map (fun t=>[strs t]) b.tokens)),PV.d (D.slice (List.map Text.cs b.texts)),PV.d (D.slice (List.map Region.cs b.regions)),PV.d (D.slice (List.map Node.cs b.nodes)),PV.d (ints b.heads),PV.d (strs b.rels)]),(4,Blk.box [PV.d (D.lit z13),PV.d (D.lit z13),PV.d (D.lit z13),PV.d (D.lit z13),PV.d (D.lit z13),PV.d (D.lit z13),PV.d (D.lit z13)]),(181,.row 55 4 ((mid a.nodes b.nodes (shN a.tokens.length a.nodes.length) k4).map Node.cs))],H⟩) (fun k4:Nat=>k4≤b.nodes.length) (fun k4:Nat=>b.nodes.length-k4) ?_ 0 (zAc _)) rfl rfl
        intro k4 hk4 ih4
        have hl4:(mid a.nodes b.nodes (shN a.tokens.length a.nodes.length) k4).length=a.nodes.length+b.nodes.length:=z4s _ _ _ _
        by_cases hlt4:k4<b.nodes.length
        case pos =>
         obtain⟨x4,hx4⟩:∃ x,b.nodes[k4]? =some x:=⟨_,zA0 (by omega)⟩
         have hs4:=hb.node x4 (zA2 hx4)
         have hg4a:(mid a.nodes b.nodes (shN a.tokens.length a.nodes.length) k4)[((a.nodes.length+k4:Nat):Int).toNat]? =some x4:=zar hx4
         have hg4b:((mid a.nodes b.nodes (shN a.tokens.length a.nodes.length) k4).set ((a.nodes.length+k4:Nat):Int).toNat (⟨x4.label,x4.b+(a.tokens.length:Int),x4.e,x4.parent⟩:Node))[((a.nodes.length+k4:Nat):Int).toNat]? =some (⟨x4.label,x4.b+(a.tokens.length:Int),x4.e,x4.parent⟩:Node):=z55 (by omega)
         have hg4c:(((mid a.nodes b.nodes (shN a.tokens.length a.nodes.length) k4).set ((a.nodes.length+k4:Nat):Int).toNat (⟨x4.label,x4.b+(a.tokens.length:Int),x4.e,x4.parent⟩:Node)).set ((a.nodes.length+k4:Nat):Int).toNat (⟨x4.label,x4.b+(a.tokens.length:Int),x4.e+(a.tokens.length:Int),x4.parent⟩:Node))[((a.nodes.length+k4:Nat):Int).toNat]? =some (⟨x4.label,x4.b+(a.tokens.length:Int),x4.e+(a.tokens.length:Int),x4.parent⟩:Node):=zam (by omega)
         have hst4:0≤x4.parent→((((mid a.nodes b.nodes (shN a.tokens.length a.nodes.length) k4).set ((a.nodes.length+k4:Nat):Int).toNat (⟨x4.label,x4.b+(a.tokens.length:Int),x4.e,x4.parent⟩:Node)).set ((a.nodes.length+k4:Nat):Int).toNat (⟨x4.label,x4.b+(a.tokens.length:Int),x4.e+(a.tokens.length:Int),x4.parent⟩:Node)).set ((a.nodes.length+k4:Nat):Int).toNat ⟨x4.label,x4.b+(a.tokens.length:Int),x4.e+(a.tokens.length:Int),x4.parent+(a.nodes.length:Int)⟩)=mid a.nodes b.nodes (shN a.tokens.length a.nodes.length) (k4+1):=fun h=>by have:=zfk (f:=shN a.tokens.length a.nodes.length) (y:=(⟨x4.label,x4.b+(a.tokens.length:Int),x4.e,x4.parent⟩:Node)) (z:=(⟨x4.label,x4.b+(a.tokens.length:Int),x4.e+(a.tokens.length:Int),x4.parent⟩:Node)) hx4 (A:=a.nodes);rw[show (shN a.tokens.length a.nodes.length) x4=_ from by simp only[shN,zAs h];rfl] at this;exact this
         have hsn4:¬ 0≤x4.parent→((mid a.nodes b.nodes (shN a.tokens.length a.nodes.length) k4).set ((a.nodes.length+k4:Nat):Int).toNat (⟨x4.label,x4.b+(a.tokens.length:Int),x4.e,x4.parent⟩:Node)).set ((a.nodes.length+k4:Nat):Int).toNat (⟨x4.label,x4.b+(a.tokens.length:Int),x4.e+(a.tokens.length:Int),x4.parent⟩:Node)=mid a.nodes b.nodes (shN a.tokens.length a.nodes.length) (k4+1):=fun h=>by have:=z92 (f:=shN a.tokens.length a.nodes.length) (y:=(⟨x4.label,x4.b+(a.tokens.length:Int),x4.e,x4.parent⟩:Node)) hx4 (A:=a.nodes);rw[show (shN a.tokens.length a.nodes.length) x4=_ from by simp only[shN,zAr h];rfl] at this;exact this
         repeat' (first|(apply z05;(first|refine z0r ?_| (apply z0c;(first|refine z02 (z1i hg4a rfl rfl rfl) rfl rfl ?_| refine z02 (z1i hg4b rfl rfl rfl) rfl rfl ?_| refine z02 (z1i hg4c rfl rfl rfl) rfl rfl ?_| refine z02 z1k rfl rfl ?_| refine z02 z3v rfl rfl ?_))|(apply z0d;(first|refine z02 z1h rfl rfl ?_| refine z02 (z3z rfl rfl) rfl rfl ?_))|(apply z0o;(refine z02 (z1d rfl (by omega) (by first|(simp only[zA4];omega)|(simp only[zA4,List.length_set];omega)) rfl) rfl rfl ?_))|(apply z15;(first|refine z02 (z1a (ziu (by simp only;omega) (by simp only;omega))) rfl rfl ?_| refine z02 (z1a z1y) rfl rfl ?_))|(apply z12;(first|refine zgw rfl rfl rfl rfl rfl (fun _=>rfl) (by decide) rfl (by decide) (by omega) ?_|refine zbm rfl rfl rfl (fun _=>rfl) (by decide) rfl (by decide) (by omega) ?_|refine z02 (z0u rfl) rfl rfl ?_| refine z02 (z2n rfl) rfl rfl ?_))|(apply z0w;(first|refine z3e (z5k (z54 a ha)) ?_| refine z3e (z5k (z54 b hb)) ?_))|(apply z0n;(first|refine z1b (⟨x4.label,x4.b+(a.tokens.length:Int),x4.e,x4.parent⟩:Node) (by rfl) (by rfl) (by rfl) (by rfl) hg4a (by rfl) (by rfl) (by rfl) (by rfl) ?_|refine z1b (⟨x4.label,x4.b+(a.tokens.length:Int),x4.e+(a.tokens.length:Int),x4.parent⟩:Node) (by rfl) (by rfl) (by rfl) (by rfl) hg4b (by rfl) (by rfl) (by rfl) (by rfl) ?_|refine z1b ⟨x4.label,x4.b+(a.tokens.length:Int),x4.e+(a.tokens.length:Int),x4.parent+(a.nodes.length:Int)⟩ (by rfl) (by rfl) (by rfl) (by rfl) hg4c (by rfl) (by rfl) (by rfl) (hst4 (by assumption)) ?_|refine z26 ?_))))|(apply z06;(first|refine z0q ?_|(apply z22;refine z23 [0,1,2,3,4,5,7,8,9,10,11,12,13,14,15,16,17,19,27,34,37,38,39,40,47,89,116,153,188,217,235,254,255,256,257,261,100500,100501] (by repeat' (first|exact z1f.nil|apply z1f.yes rfl|apply z1f.no)) (by repeat' (first|exact z0f.nil|apply z0f.old rfl|apply z0f.gone|apply z0f.new rfl)) ?_)))|(apply z07;(first|apply z08|apply z00|apply z09|apply z01|apply z04|refine z0m (fun _=>?_) (fun _=>?_)| refine z0p ?_)))
         all_goals try (first|(first|exact z0a Tryz.func27 _ (z0h rfl rfl rfl rfl rfl rfl rfl) ⟨_,rfl,Or.inl ⟨_,(by decide),rfl⟩,rfl⟩|(have e0:¬ 0<a.heads.length+b.heads.length:=(by omega);exact z0a Tryz.func27 _ (z0h rfl rfl rfl rfl rfl rfl rfl) ⟨_,rfl,Or.inr (by rw[cat,zAr e0,zAr e0];rfl),rfl⟩)|(have e0:0<a.heads.length+b.heads.length:=(by omega);exact z0a Tryz.func27 _ (z0h rfl rfl rfl rfl rfl rfl rfl) ⟨_,rfl,Or.inr (by rw[cat,zAs e0,zAs e0];rfl),rfl⟩))|(first|exact z03 (ih4 (k4+1) (by omega) (by omega)) rfl rfl|exact z03 (ih4 (k4+1) (by omega) (by omega)) rfl (by rw[← hsn4 (by assumption)];rfl))|(exfalso;(try clear ih1);(try clear ih2);(try clear ih3);(try clear ih4);(try clear ih5);(try clear hm12);omega)|((fail_if_success (refine z0k ?_));exfalso;(try clear ih1);(try clear ih2);(try clear ih3);(try clear ih4);(try clear ih5);(try clear hm12);simp_all;done))
        case neg =>
         obtain rfl:k4=b.nodes.length:=(by omega)
         refine z11 181 rfl ?_
         repeat' (first|(apply z05;(first|refine z0r ?_| (apply z0c;(first|refine z02 z1k rfl rfl ?_| refine z02 z3v rfl rfl ?_))|(apply z0d;(refine z02 z1h rfl rfl ?_))|(apply z15;(refine z02 (z1a z1y) rfl rfl ?_))|(apply z12;(first|refine zgw rfl rfl rfl rfl rfl (fun _=>rfl) (by decide) rfl (by decide) (by omega) ?_|refine zbm rfl rfl rfl (fun _=>rfl) (by decide) rfl (by decide) (by omega) ?_|refine z02 (z0u rfl) rfl rfl ?_))|(apply z0w;(first|refine z3e (z5k (z54 a ha)) ?_| refine z3e (z5k (z54 b hb)) ?_))|(apply z0n;(refine z26 ?_))))|(apply z06;(first|refine z0q ?_|(apply z22;refine z23 [0,1,2,3,4,5,7,8,9,10,11,12,13,14,15,16,17,19,27,34,37,38,39,40,47,89,116,153,188,217,235,254,255,256,257,261,100500,100501] (by repeat' (first|exact z1f.nil|apply z1f.yes rfl|apply z1f.no)) (by repeat' (first|exact z0f.nil|apply z0f.old rfl|apply z0f.gone|apply z0f.new rfl)) ?_)))|(apply z07;(first|apply z08|apply z00|apply z09|apply z01|refine z0m (fun _=>?_) (fun _=>?_)| refine z0p ?_)))
         all_goals try (first|(first|exact z0a Tryz.func27 _ (z0h rfl rfl rfl rfl rfl rfl rfl) ⟨_,rfl,Or.inl ⟨_,(by decide),rfl⟩,rfl⟩|(have e0:¬ 0<a.heads.length+b.heads.length:=(by omega);exact z0a Tryz.func27 _ (z0h rfl rfl rfl rfl rfl rfl rfl) ⟨_,rfl,Or.inr (by rw[cat,zAr e0,zAr e0];rfl),rfl⟩)|(have e0:0<a.heads.length+b.heads.length:=(by omega);exact z0a Tryz.func27 _ (z0h rfl rfl rfl rfl rfl rfl rfl) ⟨_,rfl,Or.inr (by rw[cat,zAs e0,zAs e0];rfl),rfl⟩))|(exfalso;(try clear ih1);(try clear ih2);(try clear ih3);(try clear ih4);(try clear ih5);(try clear hm12);omega)|((fail_if_success (refine z0k ?_));exfalso;(try clear ih1);(try clear ih2);(try clear ih3);(try clear ih4);(try clear ih5);(try clear hm12);simp_all;done))
         all_goals
          refine z11 251 rfl ?_
          refine z0k ?_
          refine z03 (z1x (fun k5:Nat=>⟨273,[(4,PV.ptr (0,4) 0),(8,PV.d (D.lit (Value.int IntKind.i64 (↑a.tokens.length:Int)))),(10,PV.ptr (0,10) 0),(254,PV.d (ints (z5l b))),(255,PV.d (D.lit (Value.int IntKind.i64 (↑(z5l b).length:Int)))),(256,I .i64 (k5:Nat))],[(10,Blk.box [PV.d (D.slice (List.map Attr.cs a.attrs)),PV.d (D.slice (List.map (fun t=>[strs t]) (a.tokens++b.tokens))),PV.d (D.slice (List.map Text.cs (mid a.texts b.texts (shT (↑a.tokens.length:Int)) b.texts.length))),PV.d (D.slice (List.map Region.cs (mid a.regions b.regions (shR (↑a.tokens.length:Int)) b.regions.length))),PV.d (D.slice (List.map Node.cs (mid a.nodes b.nodes (shN (↑a.tokens.length:Int) (↑a.nodes.length:Int)) b.nodes.length))),PV.ref (0,247),PV.d (D.slice (List.map (fun x=>[z4o x]) (z9c a++z9c b)))]),(4,Blk.box [PV.d (D.lit z13),PV.d (D.lit z13),PV.d (D.lit z13),PV.d (D.lit z13),PV.d (D.lit z13),PV.d (D.lit z13),PV.d (D.lit z13)]),(247,.row 3 1 ((zea (z5l a) (z5l b) (shH a.tokens.length) k5).map fun x=>[z3b x]))],H⟩) (fun k5:Nat=>k5≤(z5l b).length) (fun k5:Nat=>(z5l b).length-k5) ?_ 0 (zAc _)) rfl rfl
          intro k5 hk5 ih5
          have hl5:=zbn (z5l a) (z5l b) (shH a.tokens.length) k5
          by_cases hlt5:k5<(z5l b).length
          case pos =>
           obtain⟨x5,hx5⟩:∃ x,(z5l b)[k5]? =some x:=⟨_,zA0 (by omega)⟩
           have hr5:=zca hh x5 (zA2 hx5)
           have hc5:=z9x (A:=z5l a) (f:=shH a.tokens.length) hx5
           repeat' (first|(apply z05;(first|refine z0r ?_| (apply z0c;(first|refine z02 z1k rfl rfl ?_| refine z02 z2a rfl rfl ?_))|(apply z0d;(refine z02 z1h rfl rfl ?_))|(apply z0o;(refine z02 (z1p rfl (idx hx5)) rfl rfl ?_))|(apply z15;(refine z02 (z1a z1y) rfl rfl ?_))|(apply z12;(refine z7t _ rfl ?_))|(apply z0n;(refine z26 ?_))|(apply z3f;(refine z3h rfl ?_))))|(apply z06;(first|refine z0q ?_|(apply z22;refine z23 [0,1,2,3,4,5,7,8,9,10,11,12,13,14,15,16,17,19,27,34,37,38,39,40,47,89,116,153,188,217,235,254,255,256,257,261,100500,100501] (by repeat' (first|exact z1f.nil|apply z1f.yes rfl|apply z1f.no)) (by repeat' (first|exact z0f.nil|apply z0f.old rfl|apply z0f.gone|apply z0f.new rfl)) ?_)))|(apply z07;(first|apply z08|apply z00|apply z09|apply z01|apply z04|refine z0m (fun _=>?_) (fun _=>?_)| refine z0p ?_)))
           all_goals try (first|(first|exact z0a Tryz.func27 _ (z0h rfl rfl rfl rfl rfl rfl rfl) ⟨_,rfl,Or.inl ⟨_,(by decide),rfl⟩,rfl⟩|(have e0:¬ 0<a.heads.length+b.heads.length:=(by omega);exact z0a Tryz.func27 _ (z0h rfl rfl rfl rfl rfl rfl rfl) ⟨_,rfl,Or.inr (by rw[cat,zAr e0,zAr e0];rfl),rfl⟩)|(have e0:0<a.heads.length+b.heads.length:=(by omega);exact z0a Tryz.func27 _ (z0h rfl rfl rfl rfl rfl rfl rfl) ⟨_,rfl,Or.inr (by rw[cat,zAs e0,zAs e0];rfl),rfl⟩))|(refine z4p 269 247 rfl rfl ?_;first|exact z03 (ih5 (k5+1) (by omega) (by omega)) rfl (by rw[hc5,shH,zAs (by assumption)];rfl)|exact z03 (ih5 (k5+1) (by omega) (by omega)) rfl (by rw[hc5,shH,zAr (by assumption)];rfl))|(exfalso;(try clear ih1);(try clear ih2);(try clear ih3);(try clear ih4);(try clear ih5);(try clear hm12);omega)|((fail_if_success (refine z0k ?_));exfalso;(try clear ih1);(try clear ih2);(try clear ih3);(try clear ih4);(try clear ih5);(try clear hm12);simp_all;done))
          case neg =>
           obtain rfl:k5=(z5l b).length:=(by omega)
           refine z11 247 rfl ?_
           repeat' (first|(apply z05;(first|refine z0r ?_| (apply z0c;(refine z02 z3v rfl rfl ?_))|(apply z0n;(refine z26 ?_))))|(apply z06;(first|refine z0q ?_|(apply z22;refine z23 [0,1,2,3,4,5,7,8,9,10,11,12,13,14,15,16,17,19,27,34,37,38,39,40,47,89,116,153,188,217,235,254,255,256,257,261,100500,100501] (by repeat' (first|exact z1f.nil|apply z1f.yes rfl|apply z1f.no)) (by repeat' (first|exact z0f.nil|apply z0f.old rfl|apply z0f.gone|apply z0f.new rfl)) ?_)))|(apply z07;(first|apply z08|apply z00|apply z09|apply z01|refine z0m (fun _=>?_) (fun _=>?_)| refine z0p ?_)))
           all_goals try (first|(first|exact z0a Tryz.func27 _ (z0h rfl rfl rfl rfl rfl rfl rfl) ⟨_,rfl,Or.inl ⟨_,(by decide),rfl⟩,rfl⟩|(have e0:¬ 0<a.heads.length+b.heads.length:=(by omega);exact z0a Tryz.func27 _ (z0h rfl rfl rfl rfl rfl rfl rfl) ⟨_,rfl,Or.inr (by rw[cat,zAr e0,zAr e0];rfl),rfl⟩)|(have e0:0<a.heads.length+b.heads.length:=(by omega);exact z0a Tryz.func27 _ (z0h rfl rfl rfl rfl rfl rfl rfl) ⟨_,rfl,Or.inr (by rw[cat,zAs e0,zAs e0];rfl),rfl⟩))|(exfalso;(try clear ih1);(try clear ih2);(try clear ih3);(try clear ih4);(try clear ih5);(try clear hm12);omega)|((fail_if_success (refine z0k ?_));exfalso;(try clear ih1);(try clear ih2);(try clear ih3);(try clear ih4);(try clear ih5);(try clear hm12);simp_all;done))
attribute [local irreducible] z3d z1q
def zci:List Str:=[⟨#[116,48]⟩,⟨#[116,49]⟩,⟨#[116,50]⟩]
theorem zcg:∀ s∈zci,s.size≤10:=by simp only[zci,zAa,List.not_mem_nil,or_false];rintro s (rfl|rfl|rfl) <;> decide
theorem z3j.heads {n:Nat} {hs:List Int} {rs:List Str} (h:z3j n hs rs) (hn:n≤1000000):∀ x∈hs,-1≤x∧x≤1000000:=by
 obtain⟨rank,hr⟩:=h.range
 intro x hx
 obtain⟨i,hi⟩:=zAp hx
 rcases hr i x hi with e|⟨h1,h2,_⟩ <;> omega
theorem zac {s t:Nat} {a b:z0i} (ha:Made s a) (hb:Made t b) (hs:s≤10) (ht:t≤10):NF Tryz.prog 27 [a.d,b.d] (zk5 a b):=by
 obtain⟨p,hp⟩:=ha.nodes
 obtain⟨q,hq⟩:=hb.nodes
 exact zf2 a b (ha.small hs) (hb.small ht) (fun i x hx=>(hp.bounds (by omega) i x hx).2.2.2.2.2) (fun i x hx=>(hq.bounds (by omega) i x hx).2.2.2.2.2) (hb.heads.heads (by have:=hb.tok1;omega))
theorem zf3 (l:List Int) (k:Nat) (most:Int) (hl:l.length≤120) (hk:k≤120) (hmo:1≤most∧most≤7) :
 Rel Tryz.prog 10 [.ptr (0,500) 0,I .i64 most] [((0,500),z1w l k)]
  (fun x:z0i × Nat=>(∃ s,s≤3∧Made s x.1)∧x.2≤120) (fun x=>x.1.d) (fun x=>[((0,500),z1w l x.2)]):=by
 refine z9f fun H hH=>?_
 have hH0:=hH ((0,500),z1w l k) (by simp)
 refine z0e Tryz.func10 (by kernel_rfl) rfl (by simp) ?_
 dsimp only[Tryz.f10]
 refine z7c 500 0 500 hH0 rfl rfl ?_
 refine z03 (tm':=[(0,.ptr (0,500) 0),(1,I .i64 most),(100500,.al (0,500) (1,500))]) (hp':=[(500,z1w l k)]) ?_ rfl rfl
 repeat' (first|(apply z05;(first|refine z0r ?_| (apply z0w;(first|(refine zgj hl rfl rfl (by decide) (by omega) (by assumption) (fun _ _ _=>?_))|(refine z4w (z8b l _ _ most hl (by assumption) (by omega) (by decide)) rfl rfl (by decide) ?_;rintro⟨c,k1⟩ ⟨d1,d2⟩;simp only at d1 d2 ⊢)))|(apply z0n;(refine z26 ?_))|(apply z18;(refine z0g z2g ?_))))|(apply z06;(first|refine z0q ?_|apply z0b))|(apply z07;(first|apply z08|apply z00|apply z01)))
 refine z0k ?_
 refine z03 (z1x (fun q:Int × z0i × Nat=>⟨36,[(0,.ptr (0,500) 0),(1,I .i64 most),(4,.ptr (0,4) 0),(5,.ptr (0,5) 0),(6,I .i64 q.1),(100500,.al (0,500) (1,500))],
  [(500,z1w l q.2.2),(5,.box (q.2.1.cs.map .d)),(4,.box [.d (.lit z13),.d (.lit z13),.d (.lit z13),.d (.lit z13),.d (.lit z13),.d (.lit z13),.d (.lit z13)])],upd H (0,500) .gone⟩)
  (fun q=>0≤q.1∧q.1≤2∧(∃ s:Nat,s≤3-q.1∧Made s q.2.1)∧q.2.2≤120)
  (fun q=>q.1.toNat) ?_ ⟨_,c,_⟩ ⟨(by assumption),(by simp only;omega),⟨1,(by simp only;omega),d1.made hmo.2⟩,(by assumption)⟩) rfl rfl
 intro ⟨m,a,kt⟩ ⟨h1,h2,⟨s,hs,h3⟩,h4⟩ ih
 simp only at h1 h2 hs h3 h4 ih ⊢
 by_cases hm:0<m
 · have hx:zci[m.toNat]? =some (atL zci m):=z2y (by omega) (by have:zci.length=3:=rfl;omega)
   repeat' (first|(apply z05;(first|refine z0r ?_| (apply z0c;(first|refine z02 z2u rfl rfl ?_| refine z02 z2a rfl rfl ?_| refine z02 z3v rfl rfl ?_))|(apply z0o;(refine z02 (z1p rfl (z5i hx)) rfl rfl ?_))|(apply z15;(refine z02 (z2l z1y) rfl rfl ?_))|(apply z0w;(first|(refine z4w (z8b l _ _ most hl (by assumption) (by omega) (z3x zcg _)) rfl rfl (by decide) ?_;rintro⟨b,k2⟩ ⟨e1,e2⟩;simp only at e1 e2 ⊢)|(refine z4n (zac h3 (e1.made hmo.2) (by omega) (by decide)) rfl (by decide) (fun p hp=>?_);rcases hp with ⟨e,he,rfl⟩|rfl)))|(apply z0n;(refine z26 ?_))|(apply z18;(refine z0g z2g ?_))|(apply z3f;(refine z3h (ys:=zci.map fun x=>[z4o x]) rfl ?_))))|(apply z06;(first|refine z0q ?_|apply z0b))|(apply z07;(first|apply z08|apply z00|refine z28 rfl ?_|apply z09|apply z01|apply z04|refine z0m (fun _=>?_) (fun _=>?_)| refine z0p ?_)))
   all_goals try (exfalso;omega)
   all_goals first
    | exact z03 (ih ⟨m-1,a,k2⟩ ⟨(by simp only;omega),(by simp only;omega),⟨s,(by simp only;omega),h3⟩,e2⟩ (by simp only;omega)) rfl rfl
    | exact z03 (ih ⟨m-1,cat a b,k2⟩ ⟨(by simp only;omega),(by simp only;omega),⟨s+1,(by simp only;omega),h3.cat (e1.made hmo.2)⟩,e2⟩ (by simp only;omega)) rfl rfl
    | exact z03 (ih ⟨m-1,zgt,k2⟩ ⟨(by simp only;omega),(by simp only;omega),⟨s+1,(by simp only;omega),by exfalso;simp_all⟩,e2⟩ (by simp only;omega)) rfl rfl
 · repeat' (first|(apply z05;(first|refine z0r ?_| (apply z0c;(refine z02 z2u rfl rfl ?_))|(apply z0n;(refine z26 ?_))|(apply z3f;(refine z3h rfl ?_))))|(apply z06;(first|refine z0q ?_|apply z0b))|(apply z07;(first|apply z08|apply z00|apply z09|apply z01|refine z0m (fun _=>?_) (fun _=>?_)| refine z0p ?_)))
   all_goals try (exfalso;omega)
   all_goals
    refine z4l 500 0 500 (raw:=z1w l kt) rfl rfl rfl rfl rfl ?_
    exact z0a Tryz.func10 _ (z5u rfl rfl rfl rfl rfl rfl) ⟨(a,kt),⟨⟨s,by omega,h3⟩,h4⟩,rfl,z7a _ _ _ _⟩
theorem zet {c:z0i} (h:Wf c) {a:Int} (ha:token c a=true):way c a=a::(if head c a=-1 then [] else way c (head c a)):=by
 rw[way,z7i h ha]
 by_cases e:head c a=-1
 · rw[zAs e,zAs e]
 · rw[zAr e,zAr e,way]
theorem zbq {c:z0i} (h:Wf c):∀ (k:Nat) (a:Int),token c a=true→∀ x,(way c a)[k]? =some x→(way c a).drop k=way c x
 | 0,a,ha,x,hx=>by
  rw[way] at hx;simp at hx;subst hx;rfl
 | k+1,a,ha,x,hx=>by
  rw[zet h ha] at hx ⊢
  by_cases e:head c a=-1
  · rw[zAs e] at hx;simp at hx
  · rw[zAr e] at hx ⊢
    rw[List.getElem?_cons_succ] at hx
    rw[List.drop_succ_cons]
    exact zbq h k _ (z83 h ((z2c c a).1 ha).1 e) x hx
end Go.Proofs.YtonhfccmeammbaaGreatDoor
namespace Go.Proofs.YtonhfccmeammbaaGreatDoor
open Go.Ab
set_option maxHeartbeats 20000000
attribute [local irreducible] Run Ops Op1 z1r Val Tr z0j z2f NF Rel
structure Lf where
 op:Int
 a:Str
 b:Str
 name:Str
 mn:Int
 mx:Int
 args:List Str
def Lf.cs (g:Lf):List D:=[z3b g.op,z4o g.a,z4o g.b,z4o g.name,z4o ⟨#[]⟩,z4o ⟨#[]⟩,zew false,z3b g.mn,z3b g.mx,strs g.args,.slice []]
abbrev Lf.d (g:Lf):PV:=.d (.agg g.cs)
theorem zje (g:Lf) (h:g.op≠0):z0j Tryz.prog 57 [g.d] (B false):=by
 exact zD6
theorem ze6 (g:Lf):z0j Tryz.prog 58 [g.d,I .i64 0,I .i64 1] (.tup [I .i64 1,I .i64 1]):=by
 exact zD5
theorem zf8 (fv:PV):z0j Tryz.prog 91 [.d (.slice []),fv] (I .i64 (-1)):=by
 refine z10 fun H=>?_
 refine z0e Tryz.func91 (by kernel_rfl) rfl (by simp) ?_
 dsimp only[Tryz.f91]
 repeat' (first|(apply z05;(first|refine z0r ?_| (apply z12;(refine z02 (z6o rfl) rfl rfl ?_))))|(apply z06;(first|refine z0q ?_|apply z0b))|(apply z07;(first|apply z08|apply z00|apply z01)))
 refine z0k ?_
 refine z5v ?_
 repeat' (first|(apply z05;(refine z0r ?_))|(apply z06;(first|refine z0q ?_|apply z0b))|(apply z07;(first|apply z08|apply z00|refine z1c rfl ?_|refine z0p ?_)))
 all_goals first
  | (exfalso;omega)
  | exact z0a Tryz.func91 _ z1m ⟨rfl,rfl⟩
theorem z70 (fv:PV):z0j Tryz.prog 63 [.d (.slice []),fv] (B false):=by
 refine z10 fun H=>?_
 refine z0e Tryz.func63 (by kernel_rfl) rfl (by simp) ?_
 dsimp only[Tryz.f63]
 repeat' (first|(apply z05;(first|refine z0r ?_| (apply z0w;(refine z3e (zf8 _) ?_))))|(apply z06;(first|refine z0q ?_|apply z0b))|(apply z07;(first|apply z08|apply z00)))
 all_goals first
  | (exfalso;omega)
  | exact z0a Tryz.func63 _ z1m ⟨rfl,rfl⟩
theorem zhz (g:Lf) (h:g.op=6∨g.op=7∨g.op=8∨g.op=9∨g.op=10) (h1:g.op≠9→g.name=⟨#[]⟩) (h2:g.op≠10→g.mn=0∧g.mx=0) (h3:g.op≠8→g.args=[]) (h4:g.op=10→g.b=⟨#[]⟩) (hl:g.args.length≤1000000):z0j Tryz.prog 60 [g.d] (B true):=by
 refine z10 fun H=>?_
 refine z0e Tryz.func60 (by kernel_rfl) rfl (by simp) ?_
 dsimp only[Tryz.f60]
 obtain⟨op,a,b,name,mn,mx,args⟩:=g
 simp only at h h1 h2 h3 h4 hl
 rcases h with rfl|rfl|rfl|rfl|rfl
 · exact zD4
 · exact zD4
 · obtain rfl:=h1 (by decide);obtain⟨rfl,rfl⟩:=h2 (by decide)
   repeat' (first|(apply z05;(first|refine z0r ?_| (apply z0c;(refine z02 z1k rfl rfl ?_))|(apply z0d;(refine z02 z1h rfl rfl ?_))|(apply z15;(refine z02 (z77 rfl) rfl rfl ?_))|(apply z12;(first|refine z02 (z0u rfl) rfl rfl ?_| refine z02 (z6o rfl) rfl rfl ?_))|(apply z0n;(refine z26 ?_))|(apply z18;(refine z0g z2g ?_))|(apply z1j;(refine z0g z31 ?_))|(apply z21;(refine z43 ?_))))|(apply z06;(first|refine z0q ?_|apply z0b|refine z1z ?_| refine z14 rfl rfl (fun _=>?_) (fun _=>?_)))|(apply z07;(first|apply z08|apply z00|refine z28 rfl ?_|refine z1c rfl ?_|apply z01|apply z04)))
   all_goals exact zD31
 · obtain⟨rfl,rfl⟩:=h2 (by decide);obtain rfl:=h3 (by decide)
   repeat' (first|(apply z05;(first|refine z0r ?_| (apply z0c;(refine z02 z1k rfl rfl ?_))|(apply z0d;(refine z02 z1h rfl rfl ?_))|(apply z15;(refine z02 (z77 rfl) rfl rfl ?_))|(apply z12;(first|refine z02 (z8d rfl) rfl rfl ?_| refine z02 (z0u rfl) rfl rfl ?_| refine z02 (z6o rfl) rfl rfl ?_))|(apply z0n;(refine z26 ?_))|(apply z18;(refine z0g z2g ?_))|(apply z1j;(refine z0g z31 ?_))|(apply z21;(refine z43 ?_))))|(apply z06;(first|refine z0q ?_|apply z0b|refine z1z ?_| refine z14 rfl rfl (fun _=>?_) (fun _=>?_)))|(apply z07;(first|apply z08|apply z00|refine z28 rfl ?_|refine z1c rfl ?_|apply z01|apply z04)))
   all_goals exact zD31
 · obtain rfl:=h1 (by decide);obtain rfl:=h3 (by decide);obtain rfl:=h4 rfl
   all_goals exact zD3
def z41 {α:Type} (p:α→Bool):List α→Nat→Int
 | [],_=> -1
 | x::r,k=>if p x then (k:Int) else z41 p r (k+1)
theorem z6v {α:Type} (p:α→Bool):∀ (l:List α) (k:Nat),decide (0≤z41 p l k)=l.any p
 | [],k=>rfl
 | x::r,k=>by
  have ih:=z6v p r (k+1)
  by_cases h:p x=true
  · simp[z41,h]
  · simp only[Bool.not_eq_true] at h
    simp only[List.any_cons,h,Bool.false_or,← ih]
    simp[z41,h]
theorem z82 {α:Type} (p:α→Bool):∀ (l:List α) (k:Nat),z41 p l k=-1∨((k:Int)≤z41 p l k∧z41 p l k<k+l.length)
 | [],k=>.inl rfl
 | x::r,k=>by
  simp only[z41,zAh]
  by_cases h:p x=true
  · rw[zAs h];right;omega
  · rw[zAr h]
    rcases z82 p r (k+1) with e|e
    · exact .inl e
    · right;omega
theorem z3n {α:Type} {l:List α} {k:Nat} {x:α} (h:l[k]? =some x):l.drop k=x::l.drop (k+1):=by
 have hk:=(zA1.1 h)
 rw[List.drop_eq_getElem_cons hk.1,hk.2]
theorem zhv {cf:FuncId} {sl kk:Nat} {blk:Blk} (p:Int→Bool) (xs:List (Int)) (hl:xs.length≤1000000) (hcl:∀ k x,x∈xs→z2f Tryz.prog cf [.d (z3b x),.ptr (k,sl) 0] [((k,sl),blk)] [] (B (p x))) :
 z2f Tryz.prog 92 [.d (ints xs),.fn (.func cf) [] [.ptr (kk,sl) 0]] [((kk,sl),blk)] [] (I .i64 (z41 p xs 0)):=by
 refine z5e fun H hH=>?_
 have hH0:=hH ((kk,sl),blk) (by simp)
 refine z0e Tryz.func92 (by kernel_rfl) rfl (by simp) ?_
 dsimp only[Tryz.f92]
 repeat' (first|(apply z05;(first|refine z0r ?_| (apply z12;(refine z02 (z0u rfl) rfl rfl ?_))))|(apply z06;(first|refine z0q ?_|apply z0b))|(apply z07;(first|apply z08|apply z00|apply z01)))
 refine z0k ?_
 refine z03 (z1x (fun q:Nat=>⟨19,[(0,.d (ints xs)),(1,.fn (.func cf) [] [.ptr (kk+1,sl) 0]),(7,I .i64 xs.length),(8,I .i64 (q:Nat))],[],H⟩) (fun q=>q≤xs.length∧z41 p (xs.drop q) q=z41 p xs 0) (fun q=>xs.length-q) ?_ 0 ⟨zAc _,rfl⟩) rfl rfl
 intro k ⟨hk,hi⟩ ih
 by_cases hlt:k<xs.length
 · obtain⟨x,hx⟩:∃ x,xs[k]? =some x:=⟨_,zA0 hlt⟩
   have hm:=zA2 hx
   rw[z3n hx,z41] at hi
   repeat' (first|(apply z05;(first|refine z0r ?_| (apply z0c;(refine z02 z2a rfl rfl ?_))|(apply z0o;(refine z02 (z1p rfl (idx hx)) rfl rfl ?_))|(apply z15;(refine z02 (z1a z1y) rfl rfl ?_))|(apply z0w;(refine zf9 (first:=[]) (cap:=[.ptr (kk+1,sl) 0]) (ps:=[.d (z3b x)]) (bs:=[((kk+1,sl),blk)]) (hcl (kk+1) x hm) rfl rfl (bk1 hH0) (by decide) ?_))))|(apply z06;(first|refine z0q ?_|apply z0b))|(apply z07;(first|apply z08|apply z00|apply z09|apply z01|apply z04|refine z0m (fun _=>?_) (fun _=>?_)| refine z1u rfl (fun _=>?_) (fun _=>?_)|refine z0p ?_)))
   all_goals try (exfalso;omega)
   all_goals first
    | (refine z0a Tryz.func92 _ z1m ⟨?_,rfl⟩;rw[← hi,zAs (by assumption)])
    | exact z03 (ih (k+1) ⟨by omega,by rw[← hi,zAr (by simp_all)]⟩ (by omega)) rfl rfl
 · obtain rfl:k=xs.length:=by omega
   rw[List.drop_length,z41] at hi
   repeat' (first|(apply z05;(refine z0r ?_))|(apply z06;(first|refine z0q ?_|apply z0b))|(apply z07;(first|apply z08|apply z00|apply z09|apply z01|refine z0m (fun _=>?_) (fun _=>?_)| refine z0p ?_)))
   all_goals try (exfalso;omega)
   all_goals exact z0a Tryz.func92 _ z1m ⟨by rw[← hi],rfl⟩
theorem zho {cf:FuncId} {sl kk:Nat} {blk:Blk} (p:Int→Bool) (xs:List (Int)) (hl:xs.length≤1000000) (hcl:∀ k x,x∈xs→z2f Tryz.prog cf [.d (z3b x),.ptr (k,sl) 0] [((k,sl),blk)] [] (B (p x))) :
 z2f Tryz.prog 65 [.d (ints xs),.fn (.func cf) [] [.ptr (kk,sl) 0]] [((kk,sl),blk)] [] (B (xs.any p)):=by
 refine z5e fun H hH=>?_
 have hH0:=hH ((kk,sl),blk) (by simp)
 refine z0e Tryz.func65 (by kernel_rfl) rfl (by simp) ?_
 dsimp only[Tryz.f65]
 repeat' (first|(apply z05;(first|refine z0r ?_| (apply z0w;(refine z9o (zhv (kk:=kk+1) p xs hl hcl) rfl (bk1 hH0) (by decide) ?_))))|(apply z06;(first|refine z0q ?_|apply z0b))|(apply z07;(first|apply z08|apply z00)))
 all_goals exact z0a Tryz.func65 _ z1m ⟨by rw[← z6v p xs 0],rfl⟩
theorem zfz {cf:FuncId} {sl kk:Nat} {blk:Blk} (p:Node→Bool) (xs:List (Node)) (hl:xs.length≤1000000) (hcl:∀ k x,x∈xs→z2f Tryz.prog cf [.d (.agg x.cs),.ptr (k,sl) 0] [((k,sl),blk)] [] (B (p x))) :
 z2f Tryz.prog 157 [.d (.slice (xs.map Node.cs)),.fn (.func cf) [] [.ptr (kk,sl) 0]] [((kk,sl),blk)] [] (I .i64 (z41 p xs 0)):=by
 refine z5e fun H hH=>?_
 have hH0:=hH ((kk,sl),blk) (by simp)
 refine z0e Tryz.func157 (by kernel_rfl) rfl (by simp) ?_
 dsimp only[Tryz.f157]
 repeat' (first|(apply z05;(first|refine z0r ?_| (apply z12;(refine z02 (z0u rfl) rfl rfl ?_))))|(apply z06;(first|refine z0q ?_|apply z0b))|(apply z07;(first|apply z08|apply z00|apply z01)))
 refine z0k ?_
 refine z03 (z1x (fun q:Nat=>⟨19,[(0,.d (.slice (xs.map Node.cs))),(1,.fn (.func cf) [] [.ptr (kk+1,sl) 0]),(7,I .i64 xs.length),(8,I .i64 (q:Nat))],[],H⟩) (fun q=>q≤xs.length∧z41 p (xs.drop q) q=z41 p xs 0) (fun q=>xs.length-q) ?_ 0 ⟨zAc _,rfl⟩) rfl rfl
 intro k ⟨hk,hi⟩ ih
 by_cases hlt:k<xs.length
 · obtain⟨x,hx⟩:∃ x,xs[k]? =some x:=⟨_,zA0 hlt⟩
   have hm:=zA2 hx
   rw[z3n hx,z41] at hi
   repeat' (first|(apply z05;(first|refine z0r ?_| (apply z0c;(refine z02 (z1t rfl rfl) rfl rfl ?_))|(apply z0o;(refine z02 (z1p rfl (idx hx)) rfl rfl ?_))|(apply z15;(refine z02 (z1a z1y) rfl rfl ?_))|(apply z0w;(refine zf9 (first:=[]) (cap:=[.ptr (kk+1,sl) 0]) (ps:=[.d (.agg x.cs)]) (bs:=[((kk+1,sl),blk)]) (hcl (kk+1) x hm) rfl rfl (bk1 hH0) (by decide) ?_))))|(apply z06;(first|refine z0q ?_|apply z0b))|(apply z07;(first|apply z08|apply z00|apply z09|apply z01|apply z04|refine z0m (fun _=>?_) (fun _=>?_)| refine z1u rfl (fun _=>?_) (fun _=>?_)|refine z0p ?_)))
   all_goals try (exfalso;omega)
   all_goals first
    | (refine z0a Tryz.func157 _ z1m ⟨?_,rfl⟩;rw[← hi,zAs (by assumption)])
    | exact z03 (ih (k+1) ⟨by omega,by rw[← hi,zAr (by simp_all)]⟩ (by omega)) rfl rfl
 · obtain rfl:k=xs.length:=by omega
   rw[List.drop_length,z41] at hi
   repeat' (first|(apply z05;(refine z0r ?_))|(apply z06;(first|refine z0q ?_|apply z0b))|(apply z07;(first|apply z08|apply z00|apply z09|apply z01|refine z0m (fun _=>?_) (fun _=>?_)| refine z0p ?_)))
   all_goals try (exfalso;omega)
   all_goals exact z0a Tryz.func157 _ z1m ⟨by rw[← hi],rfl⟩
theorem zfn {cf:FuncId} {sl kk:Nat} {blk:Blk} (p:Node→Bool) (xs:List (Node)) (hl:xs.length≤1000000) (hcl:∀ k x,x∈xs→z2f Tryz.prog cf [.d (.agg x.cs),.ptr (k,sl) 0] [((k,sl),blk)] [] (B (p x))) :
 z2f Tryz.prog 129 [.d (.slice (xs.map Node.cs)),.fn (.func cf) [] [.ptr (kk,sl) 0]] [((kk,sl),blk)] [] (B (xs.any p)):=by
 refine z5e fun H hH=>?_
 have hH0:=hH ((kk,sl),blk) (by simp)
 refine z0e Tryz.func129 (by kernel_rfl) rfl (by simp) ?_
 dsimp only[Tryz.f129]
 repeat' (first|(apply z05;(first|refine z0r ?_| (apply z0w;(refine z9o (zfz (kk:=kk+1) p xs hl hcl) rfl (bk1 hH0) (by decide) ?_))))|(apply z06;(first|refine z0q ?_|apply z0b))|(apply z07;(first|apply z08|apply z00)))
 all_goals exact z0a Tryz.func129 _ z1m ⟨by rw[← z6v p xs 0],rfl⟩
end Go.Proofs.YtonhfccmeammbaaGreatDoor
