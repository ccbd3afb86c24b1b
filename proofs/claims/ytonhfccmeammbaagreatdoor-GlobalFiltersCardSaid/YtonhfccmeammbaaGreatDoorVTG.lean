/- A part. -/
import Derived.Test.YtonhfccmeammbaaGreatDoorVTE
set_option linter.all false
open Go.Proofs.Tryz
namespace Go.Proofs.YtonhfccmeammbaaGreatDoor
open Go.Ab
set_option maxHeartbeats 20000000
attribute [local irreducible] Run Ops Op1 z1z Val Tr z0q z1v NF Rel
theorem zso(a b:z10)(ha:Small a)(hb:Small b)(hpa:∀(i:Nat) (x:Node),a.nodes[i]? =some x→-1≤x.parent∧x.parent<i)(hpb:∀(i:Nat) (x:Node),b.nodes[i]? =some x→-1≤x.parent∧x.parent<i)(hh:∀x∈b.heads,-1≤x∧x≤1000000):NF prog 27 [a.d,b.d] (y2o a b):=by
 refine z5u fun H=>?_
 refine z0g func27 (by kernel_rfl) rfl (by simp) ?_
 dsimp only[f27]
 have ha1:=ha.toks
 have hb1:=hb.toks
 have ha2:=ha.ntexts
 have hb2:=hb.ntexts
 have ha3:=ha.nregs
 have hb3:=hb.nregs
 have ha4:=ha.nnodes
 have hb4:=hb.nnodes
 have ha5:=ha.nheads
 have hb5:=hb.nheads
 have ha6:=ha.nattrs
 have ha7:=zms ha5 ha1
 have hb7:=zms hb5 hb1
 have ha8:=zl7 ha.nrels ha1
 have hb8:=zl7 hb.nrels hb1
 repeat' first|(apply z05;first|refine z0n ?_| (apply z0a;first|refine z02 z1r rfl rfl ?_| refine z02 z16 rfl rfl ?_)|(apply z0c;refine z02 z0i rfl rfl ?_)|(apply z0s;refine z02 (z0w rfl) rfl rfl ?_)|(apply z0j;first|(refine z8h (zlc a ha hpa) rfl (by decide) (fun p hp=>?_);obtain⟨_,rfl⟩:=hp)|(refine z8h (zlc b hb hpb) rfl (by decide) (fun p hp=>?_);obtain⟨_,rfl⟩:=hp)|(refine z8h (zju _ _ ha.nattrs hb.nattrs) rfl (by decide) (fun p hp=>?_);obtain⟨_,rfl⟩:=hp))|(apply z0f;refine z25 ?_)|(apply z0l;refine z0b z2e ?_)|(apply z18;refine z0b z1m ?_)|(apply z1n;refine z2y ?_))|(apply z06;first|refine z0m ?_|(apply z3n;refine z3o [0,1,2,3,4,5,7,8,9,10,11,12,13,14,15,16,17,19,27,34,37,38,39,40,47,89,116,153,188,217,235,254,255,256,257,261,100500,100501] (by repeat' (first|exact z2n.nil|apply z2n.yes rfl|apply z2n.no)) (by repeat' (first|exact z13.nil|apply z13.old rfl|apply z13.gone|apply z13.new rfl)) ?_)|refine z1g ?_| refine zci rfl rfl (fun _=>?_) fun _=>?_)|(apply z07;first|apply z08|apply z00|refine z1j ?_| apply z04|apply z01|refine z2q rfl (fun _=>?_) fun _=>?_)
 all_goals try first|(first|exact z0e func27 _ (z11 rfl rfl rfl rfl rfl rfl rfl) ⟨_,rfl,Or.inl ⟨_,(by decide),rfl⟩,rfl⟩|(have e0:¬0<a.heads.length+b.heads.length:=(by omega);exact z0e func27 _ (z11 rfl rfl rfl rfl rfl rfl rfl) ⟨_,rfl,Or.inr (by rw[cat,zAy e0,zAy e0];rfl),rfl⟩)|(have e0:0<a.heads.length+b.heads.length:=(by omega);exact z0e func27 _ (z11 rfl rfl rfl rfl rfl rfl rfl) ⟨_,rfl,Or.inr (by rw[cat,zAz e0,zAz e0];rfl),rfl⟩))|(exfalso;(try clear ih1);(try clear ih2);(try clear ih3);(try clear ih4);(try clear ih5);(try clear hm12);omega)|((fail_if_success (refine z0r ?_));exfalso;(try clear ih1);(try clear ih2);(try clear ih3);(try clear ih4);(try clear ih5);(try clear hm12);simp_all;done)
 all_goals
  refine z0r ?_
  refine z0d (z1o (fun k1:Nat=>⟨273,[(2,PV.ptr (0,2) 0),(3,PV.ptr (0,3) 0),(4,PV.ptr (0,4) 0),(37,PV.d (D.slice (List.map Text.cs b.texts))),(38,I IntKind.i64 (↑b.texts.length:Int)),(39,I .i64 (k1:Nat))],[(2,Blk.box (List.map PV.d a.cs)),(3,Blk.box (List.map PV.d b.cs)),(4,Blk.box (z5q ({ size:=7,bytes:=168,kind:=TK.struct,fields:=[(0,1),(1,1),(2,1),(3,1),(4,1),(5,1),(6,1)],zero:=[z1t,z1t,z1t,z1t,z1t,z1t,z1t] }:TI).zero))],H⟩) (fun k1:Nat=>k1≤b.texts.length) (fun k1:Nat=>b.texts.length-k1) ?_ 0 (zAf _)) rfl rfl
  intro k1 hk1 ih1
  by_cases hlt1:k1<b.texts.length
  case pos =>
   obtain⟨x1,hx1⟩:∃x,b.texts[k1]? =some x:=⟨_,zA0 (by omega)⟩
   repeat' first|(apply z05;first|refine z0n ?_| (apply z0a;first|refine z02 z1r rfl rfl ?_| refine z02 z16 rfl rfl ?_| refine z02 z1w rfl rfl ?_)|(apply z0c;refine z02 z0i rfl rfl ?_)|(apply z0k;refine z02 (z1a rfl (idx hx1)) rfl rfl ?_)|(apply z0t;refine z02 (z0z z1h) rfl rfl ?_)|(apply z0s;first|(refine zm8 (d:=93) rfl rfl rfl (fun _=>rfl) (by decide) rfl (by decide) (by omega) ?_;refine zd8 93 rfl ?_)|refine z02 (z0w rfl) rfl rfl ?_)|(apply z0j;refine z8h (zo7 _ _ ha) rfl (by decide) (fun p hp=>?_);obtain⟨_,rfl⟩:=hp)|(apply z0f;refine z25 ?_)|(apply z0l;refine z0b z2e ?_)|(apply z1n;refine z2y ?_))|(apply z06;first|refine z0m ?_|(apply z3n;refine z3o [0,1,2,3,4,5,7,8,9,10,11,12,13,14,15,16,17,19,27,34,37,38,39,40,47,89,116,153,188,217,235,254,255,256,257,261,100500,100501] (by repeat' (first|exact z2n.nil|apply z2n.yes rfl|apply z2n.no)) (by repeat' (first|exact z13.nil|apply z13.old rfl|apply z13.gone|apply z13.new rfl)) ?_)|refine z1g ?_| refine z1p (fun _=>?_) fun _=>?_)|(apply z07;first|(refine zct (b:= ?_) hm12 ?_ ?_ ?_;rotate_left;(exact rfl);(exact rfl);exact rfl)|refine z7o 12 89 (fun b12=>?_) (fun hm12=>?_)|apply z08|apply z00|apply z04|apply z01|apply z2o|apply z03|refine z0h (fun _=>?_) (fun _=>?_)| refine z2q rfl (fun _=>?_) (fun _=>?_)|refine z0o ?_)|(apply z2m;first|(apply z1e;refine z97 [0,1,2,3,4,5,7,8,9,10,11,12,13,14,15,16,17,19,27,34,37,38,39,40,47,89,116,153,188,217,235,254,255,256,257,261,100500,100501] mix (by kernel_rfl) (by repeat' (first|exact z2n.nil|apply z2n.yes rfl|apply z2n.no)) (by repeat' (first|exact z13.nil|apply z13.old rfl|apply z13.gone|apply z13.new rfl)) ?_)|refine z2w ?_| (apply z0v;refine z0x z16 rfl rfl ?_)|(apply z0u;refine z0x z0i rfl rfl ?_)|(apply z3v;first|refine zfc (by first|exact rfl|exact⟨_,rfl,rfl,rfl⟩) rfl rfl rfl (fun _=>rfl) (by decide) rfl (by decide) (by omega) ?_|refine zco (by first|exact rfl|exact⟨_,rfl,rfl,rfl⟩) rfl rfl rfl rfl rfl (fun _=>rfl) (by decide) rfl (by decide) (by omega) ?_|refine z0x (z0w rfl) rfl rfl ?_)|(apply z2r;refine z5w (by first|exact rfl|exact⟨_,rfl,rfl,rfl⟩) rfl rfl rfl rfl rfl ?_))
   all_goals try first|(first|exact z0e func27 _ (z11 rfl rfl rfl rfl rfl rfl rfl) ⟨_,rfl,Or.inl ⟨_,(by decide),rfl⟩,rfl⟩|(have e0:¬0<a.heads.length+b.heads.length:=(by omega);exact z0e func27 _ (z11 rfl rfl rfl rfl rfl rfl rfl) ⟨_,rfl,Or.inr (by rw[cat,zAy e0,zAy e0];rfl),rfl⟩)|(have e0:0<a.heads.length+b.heads.length:=(by omega);exact z0e func27 _ (z11 rfl rfl rfl rfl rfl rfl rfl) ⟨_,rfl,Or.inr (by rw[cat,zAz e0,zAz e0];rfl),rfl⟩))|exact z0d (ih1 (k1+1) (by omega) (by omega)) rfl rfl|(exfalso;(try clear ih1);(try clear ih2);(try clear ih3);(try clear ih4);(try clear ih5);(try clear hm12);omega)|((fail_if_success (refine z0r ?_));exfalso;(try clear ih1);(try clear ih2);(try clear ih3);(try clear ih4);(try clear ih5);(try clear hm12);simp_all;done)
  case neg =>
   repeat' first|(apply z05;first|refine z0n ?_| (apply z0a;refine z02 z16 rfl rfl ?_)|(apply z0c;refine z02 z0i rfl rfl ?_)|(apply z0t;refine z02 (z0z z1h) rfl rfl ?_)|(apply z0s;first|(refine zm8 (d:=93) rfl rfl rfl (fun _=>rfl) (by decide) rfl (by decide) (by omega) ?_;refine zd8 93 rfl ?_)|refine z02 (z0w rfl) rfl rfl ?_)|(apply z0f;refine z25 ?_)|(apply z0l;refine z0b z2e ?_)|(apply z1n;refine z2y ?_))|(apply z06;first|refine z0m ?_|(apply z3n;refine z3o [0,1,2,3,4,5,7,8,9,10,11,12,13,14,15,16,17,19,27,34,37,38,39,40,47,89,116,153,188,217,235,254,255,256,257,261,100500,100501] (by repeat' (first|exact z2n.nil|apply z2n.yes rfl|apply z2n.no)) (by repeat' (first|exact z13.nil|apply z13.old rfl|apply z13.gone|apply z13.new rfl)) ?_)|refine z1g ?_| refine z1p (fun _=>?_) fun _=>?_)|(apply z07;first|(refine zct (b:= ?_) hm12 ?_ ?_ ?_;rotate_left;(exact rfl);(exact rfl);exact rfl)|refine z7o 12 89 (fun b12=>?_) (fun hm12=>?_)|apply z08|apply z00|apply z04|apply z01|apply z2o|refine z0h (fun _=>?_) (fun _=>?_)| refine z2q rfl (fun _=>?_) (fun _=>?_)|refine z0o ?_)|(apply z2m;first|(apply z1e;refine z97 [0,1,2,3,4,5,7,8,9,10,11,12,13,14,15,16,17,19,27,34,37,38,39,40,47,89,116,153,188,217,235,254,255,256,257,261,100500,100501] mix (by kernel_rfl) (by repeat' (first|exact z2n.nil|apply z2n.yes rfl|apply z2n.no)) (by repeat' (first|exact z13.nil|apply z13.old rfl|apply z13.gone|apply z13.new rfl)) ?_)|refine z2w ?_| (apply z0v;refine z0x z16 rfl rfl ?_)|(apply z0u;refine z0x z0i rfl rfl ?_)|(apply z3v;first|refine zfc (by first|exact rfl|exact⟨_,rfl,rfl,rfl⟩) rfl rfl rfl (fun _=>rfl) (by decide) rfl (by decide) (by omega) ?_|refine zco (by first|exact rfl|exact⟨_,rfl,rfl,rfl⟩) rfl rfl rfl rfl rfl (fun _=>rfl) (by decide) rfl (by decide) (by omega) ?_|refine z0x (z0w rfl) rfl rfl ?_)|(apply z2r;refine z5w (by first|exact rfl|exact⟨_,rfl,rfl,rfl⟩) rfl rfl rfl rfl rfl ?_))
   all_goals try first|(first|exact z0e func27 _ (z11 rfl rfl rfl rfl rfl rfl rfl) ⟨_,rfl,Or.inl ⟨_,(by decide),rfl⟩,rfl⟩|(have e0:¬0<a.heads.length+b.heads.length:=(by omega);exact z0e func27 _ (z11 rfl rfl rfl rfl rfl rfl rfl) ⟨_,rfl,Or.inr (by rw[cat,zAy e0,zAy e0];rfl),rfl⟩)|(have e0:0<a.heads.length+b.heads.length:=(by omega);exact z0e func27 _ (z11 rfl rfl rfl rfl rfl rfl rfl) ⟨_,rfl,Or.inr (by rw[cat,zAz e0,zAz e0];rfl),rfl⟩))|(exfalso;(try clear ih1);(try clear ih2);(try clear ih3);(try clear ih4);(try clear ih5);(try clear hm12);omega)|((fail_if_success (refine z0r ?_));exfalso;(try clear ih1);(try clear ih2);(try clear ih3);(try clear ih4);(try clear ih5);(try clear hm12);simp_all;done)
   all_goals
    refine z1f 100 rfl ?_
    refine z0r ?_
    refine z0d (z1o (fun k2:Nat=>⟨273,[(2,PV.ptr (0,2) 0),(3,PV.ptr (0,3) 0),(4,PV.ptr (0,4) 0),(8,PV.d (D.lit (Value.int IntKind.i64 (↑a.tokens.length:Int)))),(9,PV.d (D.lit (Value.int IntKind.i64 (↑a.nodes.length:Int)))),(10,PV.ptr (0,10) 0),(11,I .i64 ((a.texts.length+k2:Nat):Int))],[(2,Blk.box [PV.d (D.slice (List.map Attr.cs a.attrs)),PV.d (D.slice (List.map (fun t=>[strs t]) a.tokens)),PV.d (D.slice (List.map Text.cs a.texts)),PV.d (D.slice (List.map Region.cs a.regions)),PV.d (D.slice (List.map Node.cs a.nodes)),PV.d (ints a.heads),PV.d (strs a.rels)]),(10,Blk.box [PV.d (D.slice (List.map Attr.cs a.attrs)),PV.d (D.slice (List.map (fun t=>[strs t]) (a.tokens++b.tokens))),PV.ref (0,107),PV.d (D.lit z1t),PV.d (D.lit z1t),PV.d (D.lit z1t),PV.d (D.lit z1t)]),(3,Blk.box [PV.d (D.slice (List.map Attr.cs b.attrs)),PV.d (D.slice (List.map (fun t=>[strs t]) b.tokens)),PV.d (D.slice (List.map Text.cs b.texts)),PV.d (D.slice (List.map Region.cs b.regions)),PV.d (D.slice (List.map Node.cs b.nodes)),PV.d (ints b.heads),PV.d (strs b.rels)]),(4,Blk.box [PV.d (D.lit z1t),PV.d (D.lit z1t),PV.d (D.lit z1t),PV.d (D.lit z1t),PV.d (D.lit z1t),PV.d (D.lit z1t),PV.d (D.lit z1t)]),(107,.row 66 4 ((mid a.texts b.texts (shT a.tokens.length) k2).map Text.cs))],H⟩) (fun k2:Nat=>k2≤b.texts.length) (fun k2:Nat=>b.texts.length-k2) ?_ 0 (zAf _)) rfl rfl
    intro k2 hk2 ih2
    have hl2:(mid a.texts b.texts (shT a.tokens.length) k2).length=a.texts.length+b.texts.length:=z8z _ _ _ _
    by_cases hlt2:k2<b.texts.length
    case pos =>
     obtain⟨x2,hx2⟩:∃x,b.texts[k2]? =some x:=⟨_,zA0 (by omega)⟩
     have hs2:=hb.text x2 (zA2 hx2)
     have hg2a:(mid a.texts b.texts (shT a.tokens.length) k2)[((a.texts.length+k2:Nat):Int).toNat]? =some x2:=zk6 hx2
     have hg2b:((mid a.texts b.texts (shT a.tokens.length) k2).set ((a.texts.length+k2:Nat):Int).toNat (⟨x2.name,x2.b+(a.tokens.length:Int),x2.e,x2.meta_⟩:Text))[((a.texts.length+k2:Nat):Int).toNat]? =some (⟨x2.name,x2.b+(a.tokens.length:Int),x2.e,x2.meta_⟩:Text):=z9i (by omega)
     repeat' first|(apply z05;first|refine z0n ?_| (apply z0a;first|refine z02 (z23 hg2a rfl rfl rfl) rfl rfl ?_| refine z02 (z23 hg2b rfl rfl rfl) rfl rfl ?_| refine z02 z16 rfl rfl ?_)|(apply z0c;first|refine z02 z0i rfl rfl ?_| refine z02 (z4k rfl rfl) rfl rfl ?_)|(apply z0k;refine z02 (z4r rfl (by first|(simp only[zA4];omega)|(simp only[zA4,List.length_set];omega))) rfl rfl ?_)|(apply z0t;first|refine z02 (z0z (y13 (by simp only;omega) (by simp only;omega))) rfl rfl ?_| refine z02 (z0z z1h) rfl rfl ?_)|(apply z0s;first|refine z02 (z0w rfl) rfl rfl ?_| refine z02 (z47 rfl) rfl rfl ?_)|(apply z0f;first|refine z22 (⟨x2.name,x2.b+(a.tokens.length:Int),x2.e,x2.meta_⟩:Text) (by rfl) (by rfl) (by rfl) (by rfl) hg2a (by rfl) (by rfl) (by rfl) (by rfl) ?_|refine z22 (⟨x2.name,x2.b+(a.tokens.length:Int),x2.e+(a.tokens.length:Int),x2.meta_⟩:Text) (by rfl) (by rfl) (by rfl) (by rfl) hg2b (by rfl) (by rfl) (by rfl) (zhe hx2) ?_))|(apply z06;first|refine z0m ?_|(apply z3n;refine z3o [0,1,2,3,4,5,7,8,9,10,11,12,13,14,15,16,17,19,27,34,37,38,39,40,47,89,116,153,188,217,235,254,255,256,257,261,100500,100501] (by repeat' (first|exact z2n.nil|apply z2n.yes rfl|apply z2n.no)) (by repeat' (first|exact z13.nil|apply z13.old rfl|apply z13.gone|apply z13.new rfl)) ?_))|(apply z07;first|apply z08|apply z00|apply z04|apply z01|apply z2o|apply z03|refine z0h (fun _=>?_) (fun _=>?_)| refine z0o ?_)|(apply z2m;first|(apply z1e;refine z97 [0,1,2,3,4,5,7,8,9,10,11,12,13,14,15,16,17,19,27,34,37,38,39,40,47,89,116,153,188,217,235,254,255,256,257,261,100500,100501] mix (by kernel_rfl) (by repeat' (first|exact z2n.nil|apply z2n.yes rfl|apply z2n.no)) (by repeat' (first|exact z13.nil|apply z13.old rfl|apply z13.gone|apply z13.new rfl)) ?_)|(apply z0v;refine z0x z16 rfl rfl ?_)|(apply z0u;refine z0x z0i rfl rfl ?_)|(apply z3v;first|refine zfc (by first|exact rfl|exact⟨_,rfl,rfl,rfl⟩) rfl rfl rfl (fun _=>rfl) (by decide) rfl (by decide) (by omega) ?_|refine zco (by first|exact rfl|exact⟨_,rfl,rfl,rfl⟩) rfl rfl rfl rfl rfl (fun _=>rfl) (by decide) rfl (by decide) (by omega) ?_)|(apply z2r;refine z5w (by first|exact rfl|exact⟨_,rfl,rfl,rfl⟩) rfl rfl rfl rfl rfl ?_))
     all_goals try first|(first|exact z0e func27 _ (z11 rfl rfl rfl rfl rfl rfl rfl) ⟨_,rfl,Or.inl ⟨_,(by decide),rfl⟩,rfl⟩|(have e0:¬0<a.heads.length+b.heads.length:=(by omega);exact z0e func27 _ (z11 rfl rfl rfl rfl rfl rfl rfl) ⟨_,rfl,Or.inr (by rw[cat,zAy e0,zAy e0];rfl),rfl⟩)|(have e0:0<a.heads.length+b.heads.length:=(by omega);exact z0e func27 _ (z11 rfl rfl rfl rfl rfl rfl rfl) ⟨_,rfl,Or.inr (by rw[cat,zAz e0,zAz e0];rfl),rfl⟩))|exact z0d (ih2 (k2+1) (by omega) (by omega)) rfl rfl|(exfalso;(try clear ih1);(try clear ih2);(try clear ih3);(try clear ih4);(try clear ih5);(try clear hm12);omega)|((fail_if_success (refine z0r ?_));exfalso;(try clear ih1);(try clear ih2);(try clear ih3);(try clear ih4);(try clear ih5);(try clear hm12);simp_all;done)
    case neg =>
     repeat' first|(apply z05;first|refine z0n ?_| (apply z0a;refine z02 z16 rfl rfl ?_)|(apply z0c;refine z02 z0i rfl rfl ?_)|(apply z0s;first|refine z02 (z0w rfl) rfl rfl ?_| refine z02 (z47 rfl) rfl rfl ?_))|(apply z06;first|refine z0m ?_|(apply z3n;refine z3o [0,1,2,3,4,5,7,8,9,10,11,12,13,14,15,16,17,19,27,34,37,38,39,40,47,89,116,153,188,217,235,254,255,256,257,261,100500,100501] (by repeat' (first|exact z2n.nil|apply z2n.yes rfl|apply z2n.no)) (by repeat' (first|exact z13.nil|apply z13.old rfl|apply z13.gone|apply z13.new rfl)) ?_))|(apply z07;first|apply z08|apply z00|apply z04|apply z01|apply z2o|refine z0h (fun _=>?_) (fun _=>?_)| refine z0o ?_)|(apply z2m;first|(apply z1e;refine z97 [0,1,2,3,4,5,7,8,9,10,11,12,13,14,15,16,17,19,27,34,37,38,39,40,47,89,116,153,188,217,235,254,255,256,257,261,100500,100501] mix (by kernel_rfl) (by repeat' (first|exact z2n.nil|apply z2n.yes rfl|apply z2n.no)) (by repeat' (first|exact z13.nil|apply z13.old rfl|apply z13.gone|apply z13.new rfl)) ?_)|(apply z0v;refine z0x z16 rfl rfl ?_)|(apply z0u;refine z0x z0i rfl rfl ?_)|(apply z3v;first|refine zfc (by first|exact rfl|exact⟨_,rfl,rfl,rfl⟩) rfl rfl rfl (fun _=>rfl) (by decide) rfl (by decide) (by omega) ?_|refine zco (by first|exact rfl|exact⟨_,rfl,rfl,rfl⟩) rfl rfl rfl rfl rfl (fun _=>rfl) (by decide) rfl (by decide) (by omega) ?_)|(apply z2r;refine z5w (by first|exact rfl|exact⟨_,rfl,rfl,rfl⟩) rfl rfl rfl rfl rfl ?_))
     all_goals try first|(first|exact z0e func27 _ (z11 rfl rfl rfl rfl rfl rfl rfl) ⟨_,rfl,Or.inl ⟨_,(by decide),rfl⟩,rfl⟩|(have e0:¬0<a.heads.length+b.heads.length:=(by omega);exact z0e func27 _ (z11 rfl rfl rfl rfl rfl rfl rfl) ⟨_,rfl,Or.inr (by rw[cat,zAy e0,zAy e0];rfl),rfl⟩)|(have e0:0<a.heads.length+b.heads.length:=(by omega);exact z0e func27 _ (z11 rfl rfl rfl rfl rfl rfl rfl) ⟨_,rfl,Or.inr (by rw[cat,zAz e0,zAz e0];rfl),rfl⟩))|(exfalso;(try clear ih1);(try clear ih2);(try clear ih3);(try clear ih4);(try clear ih5);(try clear hm12);omega)|((fail_if_success (refine z0r ?_));exfalso;(try clear ih1);(try clear ih2);(try clear ih3);(try clear ih4);(try clear ih5);(try clear hm12);simp_all;done)
     all_goals
      obtain rfl:k2=b.texts.length:=(by omega)
      refine z1f 107 rfl ?_
      refine z0r ?_
      refine z0d (z1o (fun k3:Nat=>⟨273,[(2,PV.ptr (0,2) 0),(3,PV.ptr (0,3) 0),(4,PV.ptr (0,4) 0),(8,PV.d (D.lit (Value.int IntKind.i64 (↑a.tokens.length:Int)))),(9,PV.d (D.lit (Value.int IntKind.i64 (↑a.nodes.length:Int)))),(10,PV.ptr (0,10) 0),(12,I .i64 ((a.regions.length+k3:Nat):Int))],[(2,Blk.box [PV.d (D.slice (List.map Attr.cs a.attrs)),PV.d (D.slice (List.map (fun t=>[strs t]) a.tokens)),PV.d (D.slice (List.map Text.cs a.texts)),PV.d (D.slice (List.map Region.cs a.regions)),PV.d (D.slice (List.map Node.cs a.nodes)),PV.d (ints a.heads),PV.d (strs a.rels)]),(10,Blk.box [PV.d (D.slice (List.map Attr.cs a.attrs)),PV.d (D.slice (List.map (fun t=>[strs t]) (a.tokens++b.tokens))),PV.d (D.slice (List.map Text.cs (mid a.texts b.texts (shT (↑a.tokens.length:Int)) b.texts.length))),PV.ref (0,144),PV.d (D.lit z1t),PV.d (D.lit z1t),PV.d (D.lit z1t)]),(3,Blk.box [PV.d (D.slice (List.map Attr.cs b.attrs)),PV.d (D.slice (List.map (fun t=>[strs t]) b.tokens)),PV.d (D.slice (List.map Text.cs b.texts)),PV.d (D.slice (List.map Region.cs b.regions)),PV.d (D.slice (List.map Node.cs b.nodes)),PV.d (ints b.heads),PV.d (strs b.rels)]),(4,Blk.box [PV.d (D.lit z1t),PV.d (D.lit z1t),PV.d (D.lit z1t),PV.d (D.lit z1t),PV.d (D.lit z1t),PV.d (D.lit z1t),PV.d (D.lit z1t)]),(144,.row 84 4 ((mid a.regions b.regions (shR a.tokens.length) k3).map Region.cs))],H⟩) (fun k3:Nat=>k3≤b.regions.length) (fun k3:Nat=>b.regions.length-k3) ?_ 0 (zAf _)) rfl rfl
      intro k3 hk3 ih3
      have hl3:(mid a.regions b.regions (shR a.tokens.length) k3).length=a.regions.length+b.regions.length:=z8z _ _ _ _
      by_cases hlt3:k3<b.regions.length
      case pos =>
       obtain⟨x3,hx3⟩:∃x,b.regions[k3]? =some x:=⟨_,zA0 (by omega)⟩
       have hs3:=hb.reg x3 (zA2 hx3)
       have hg3a:(mid a.regions b.regions (shR a.tokens.length) k3)[((a.regions.length+k3:Nat):Int).toNat]? =some x3:=zk6 hx3
       have hg3b:((mid a.regions b.regions (shR a.tokens.length) k3).set ((a.regions.length+k3:Nat):Int).toNat (⟨x3.type,x3.b+(a.tokens.length:Int),x3.e,x3.keys⟩:Region))[((a.regions.length+k3:Nat):Int).toNat]? =some (⟨x3.type,x3.b+(a.tokens.length:Int),x3.e,x3.keys⟩:Region):=z9i (by omega)
       repeat' first|(apply z05;first|refine z0n ?_| (apply z0a;first|refine z02 (z23 hg3a rfl rfl rfl) rfl rfl ?_| refine z02 (z23 hg3b rfl rfl rfl) rfl rfl ?_| refine z02 z16 rfl rfl ?_)|(apply z0c;first|refine z02 z0i rfl rfl ?_| refine z02 (z4k rfl rfl) rfl rfl ?_)|(apply z0k;refine z02 (z4r rfl (by first|(simp only[zA4];omega)|(simp only[zA4,List.length_set];omega))) rfl rfl ?_)|(apply z0t;first|refine z02 (z0z (y13 (by simp only;omega) (by simp only;omega))) rfl rfl ?_| refine z02 (z0z z1h) rfl rfl ?_)|(apply z0s;refine z02 (z47 rfl) rfl rfl ?_)|(apply z0f;first|refine z22 (⟨x3.type,x3.b+(a.tokens.length:Int),x3.e,x3.keys⟩:Region) (by rfl) (by rfl) (by rfl) (by rfl) hg3a (by rfl) (by rfl) (by rfl) (by rfl) ?_|refine z22 (⟨x3.type,x3.b+(a.tokens.length:Int),x3.e+(a.tokens.length:Int),x3.keys⟩:Region) (by rfl) (by rfl) (by rfl) (by rfl) hg3b (by rfl) (by rfl) (by rfl) (zhe hx3) ?_))|(apply z06;first|refine z0m ?_|(apply z3n;refine z3o [0,1,2,3,4,5,7,8,9,10,11,12,13,14,15,16,17,19,27,34,37,38,39,40,47,89,116,153,188,217,235,254,255,256,257,261,100500,100501] (by repeat' (first|exact z2n.nil|apply z2n.yes rfl|apply z2n.no)) (by repeat' (first|exact z13.nil|apply z13.old rfl|apply z13.gone|apply z13.new rfl)) ?_))|(apply z07;first|apply z08|apply z00|apply z04|apply z01|apply z2o|apply z03|refine z0h (fun _=>?_) (fun _=>?_)| refine z0o ?_)|(apply z2m;first|(apply z1e;refine z97 [0,1,2,3,4,5,7,8,9,10,11,12,13,14,15,16,17,19,27,34,37,38,39,40,47,89,116,153,188,217,235,254,255,256,257,261,100500,100501] mix (by kernel_rfl) (by repeat' (first|exact z2n.nil|apply z2n.yes rfl|apply z2n.no)) (by repeat' (first|exact z13.nil|apply z13.old rfl|apply z13.gone|apply z13.new rfl)) ?_)|(apply z0v;refine z0x z16 rfl rfl ?_)|(apply z0u;refine z0x z0i rfl rfl ?_)|(apply z3v;first|refine zfc (by first|exact rfl|exact⟨_,rfl,rfl,rfl⟩) rfl rfl rfl (fun _=>rfl) (by decide) rfl (by decide) (by omega) ?_|refine zco (by first|exact rfl|exact⟨_,rfl,rfl,rfl⟩) rfl rfl rfl rfl rfl (fun _=>rfl) (by decide) rfl (by decide) (by omega) ?_)|(apply z2r;refine z5w (by first|exact rfl|exact⟨_,rfl,rfl,rfl⟩) rfl rfl rfl rfl rfl ?_))
       all_goals try first|(first|exact z0e func27 _ (z11 rfl rfl rfl rfl rfl rfl rfl) ⟨_,rfl,Or.inl ⟨_,(by decide),rfl⟩,rfl⟩|(have e0:¬0<a.heads.length+b.heads.length:=(by omega);exact z0e func27 _ (z11 rfl rfl rfl rfl rfl rfl rfl) ⟨_,rfl,Or.inr (by rw[cat,zAy e0,zAy e0];rfl),rfl⟩)|(have e0:0<a.heads.length+b.heads.length:=(by omega);exact z0e func27 _ (z11 rfl rfl rfl rfl rfl rfl rfl) ⟨_,rfl,Or.inr (by rw[cat,zAz e0,zAz e0];rfl),rfl⟩))|exact z0d (ih3 (k3+1) (by omega) (by omega)) rfl rfl|(exfalso;(try clear ih1);(try clear ih2);(try clear ih3);(try clear ih4);(try clear ih5);(try clear hm12);omega)|((fail_if_success (refine z0r ?_));exfalso;(try clear ih1);(try clear ih2);(try clear ih3);(try clear ih4);(try clear ih5);(try clear hm12);simp_all;done)
      case neg =>
       repeat' first|(apply z05;first|refine z0n ?_| (apply z0a;refine z02 z16 rfl rfl ?_)|(apply z0c;refine z02 z0i rfl rfl ?_)|(apply z0s;refine z02 (z47 rfl) rfl rfl ?_))|(apply z06;first|refine z0m ?_|(apply z3n;refine z3o [0,1,2,3,4,5,7,8,9,10,11,12,13,14,15,16,17,19,27,34,37,38,39,40,47,89,116,153,188,217,235,254,255,256,257,261,100500,100501] (by repeat' (first|exact z2n.nil|apply z2n.yes rfl|apply z2n.no)) (by repeat' (first|exact z13.nil|apply z13.old rfl|apply z13.gone|apply z13.new rfl)) ?_))|(apply z07;first|apply z08|apply z00|apply z04|apply z01|apply z2o|refine z0h (fun _=>?_) (fun _=>?_)| refine z0o ?_)|(apply z2m;first|(apply z1e;refine z97 [0,1,2,3,4,5,7,8,9,10,11,12,13,14,15,16,17,19,27,34,37,38,39,40,47,89,116,153,188,217,235,254,255,256,257,261,100500,100501] mix (by kernel_rfl) (by repeat' (first|exact z2n.nil|apply z2n.yes rfl|apply z2n.no)) (by repeat' (first|exact z13.nil|apply z13.old rfl|apply z13.gone|apply z13.new rfl)) ?_)|(apply z0v;refine z0x z16 rfl rfl ?_)|(apply z0u;refine z0x z0i rfl rfl ?_)|(apply z3v;first|refine zfc (by first|exact rfl|exact⟨_,rfl,rfl,rfl⟩) rfl rfl rfl (fun _=>rfl) (by decide) rfl (by decide) (by omega) ?_|refine zco (by first|exact rfl|exact⟨_,rfl,rfl,rfl⟩) rfl rfl rfl rfl rfl (fun _=>rfl) (by decide) rfl (by decide) (by omega) ?_)|(apply z2r;refine z5w (by first|exact rfl|exact⟨_,rfl,rfl,rfl⟩) rfl rfl rfl rfl rfl ?_))
       all_goals try first|(first|exact z0e func27 _ (z11 rfl rfl rfl rfl rfl rfl rfl) ⟨_,rfl,Or.inl ⟨_,(by decide),rfl⟩,rfl⟩|(have e0:¬0<a.heads.length+b.heads.length:=(by omega);exact z0e func27 _ (z11 rfl rfl rfl rfl rfl rfl rfl) ⟨_,rfl,Or.inr (by rw[cat,zAy e0,zAy e0];rfl),rfl⟩)|(have e0:0<a.heads.length+b.heads.length:=(by omega);exact z0e func27 _ (z11 rfl rfl rfl rfl rfl rfl rfl) ⟨_,rfl,Or.inr (by rw[cat,zAz e0,zAz e0];rfl),rfl⟩))|(exfalso;(try clear ih1);(try clear ih2);(try clear ih3);(try clear ih4);(try clear ih5);(try clear hm12);omega)|((fail_if_success (refine z0r ?_));exfalso;(try clear ih1);(try clear ih2);(try clear ih3);(try clear ih4);(try clear ih5);(try clear hm12);simp_all;done)
       all_goals
        obtain rfl:k3=b.regions.length:=(by omega)
        refine z1f 144 rfl ?_
        refine z0r ?_
        refine z0d (z1o (fun k4:Nat=>⟨273,[(2,PV.ptr (0,2) 0),(3,PV.ptr (0,3) 0),(4,PV.ptr (0,4) 0),(8,PV.d (D.lit (Value.int IntKind.i64 (↑a.tokens.length:Int)))),(9,PV.d (D.lit (Value.int IntKind.i64 (↑a.nodes.length:Int)))),(10,PV.ptr (0,10) 0),(13,I .i64 ((a.nodes.length+k4:Nat):Int))],[(2,Blk.box [PV.d (D.slice (List.map Attr.cs a.attrs)),PV.d (D.slice (List.map (fun t=>[strs t]) a.tokens)),PV.d (D.slice (List.map Text.cs a.texts)),PV.d (D.slice (List.map Region.cs a.regions)),PV.d (D.slice (List.map Node.cs a.nodes)),PV.d (ints a.heads),PV.d (strs a.rels)]),(10,Blk.box [PV.d (D.slice (List.map Attr.cs a.attrs)),PV.d (D.slice (List.map (fun t=>[strs t]) (a.tokens++b.tokens))),PV.d (D.slice (List.map Text.cs (mid a.texts b.texts (shT (↑a.tokens.length:Int)) b.texts.length))),PV.d (D.slice (List.map Region.cs (mid a.regions b.regions (shR (↑a.tokens.length:Int)) b.regions.length))),PV.ref (0,181),PV.d (D.lit z1t),PV.d (D.lit z1t)]),(3,Blk.box [PV.d (D.slice (List.map Attr.cs b.attrs)),PV.d (D.slice (List.map (fun t=>[strs t]) b.tokens)),PV.d (D.slice (List.map Text.cs b.texts)),PV.d (D.slice (List.map Region.cs b.regions)),PV.d (D.slice (List.map Node.cs b.nodes)),PV.d (ints b.heads),PV.d (strs b.rels)]),(4,Blk.box [PV.d (D.lit z1t),PV.d (D.lit z1t),PV.d (D.lit z1t),PV.d (D.lit z1t),PV.d (D.lit z1t),PV.d (D.lit z1t),PV.d (D.lit z1t)]),(181,.row 55 4 ((mid a.nodes b.nodes (shN a.tokens.length a.nodes.length) k4).map Node.cs))],H⟩) (fun k4:Nat=>k4≤b.nodes.length) (fun k4:Nat=>b.nodes.length-k4) ?_ 0 (zAf _)) rfl rfl
        intro k4 hk4 ih4
        have hl4:(mid a.nodes b.nodes (shN a.tokens.length a.nodes.length) k4).length=a.nodes.length+b.nodes.length:=z8z _ _ _ _
        by_cases hlt4:k4<b.nodes.length
        case pos =>
         obtain⟨x4,hx4⟩:∃x,b.nodes[k4]? =some x:=⟨_,zA0 (by omega)⟩
         have hs4:=hb.node x4 (zA2 hx4)
         have hg4a:(mid a.nodes b.nodes (shN a.tokens.length a.nodes.length) k4)[((a.nodes.length+k4:Nat):Int).toNat]? =some x4:=zk6 hx4
         have hg4b:((mid a.nodes b.nodes (shN a.tokens.length a.nodes.length) k4).set ((a.nodes.length+k4:Nat):Int).toNat (⟨x4.label,x4.b+(a.tokens.length:Int),x4.e,x4.parent⟩:Node))[((a.nodes.length+k4:Nat):Int).toNat]? =some (⟨x4.label,x4.b+(a.tokens.length:Int),x4.e,x4.parent⟩:Node):=z9i (by omega)
         have hg4c:(((mid a.nodes b.nodes (shN a.tokens.length a.nodes.length) k4).set ((a.nodes.length+k4:Nat):Int).toNat (⟨x4.label,x4.b+(a.tokens.length:Int),x4.e,x4.parent⟩:Node)).set ((a.nodes.length+k4:Nat):Int).toNat (⟨x4.label,x4.b+(a.tokens.length:Int),x4.e+(a.tokens.length:Int),x4.parent⟩:Node))[((a.nodes.length+k4:Nat):Int).toNat]? =some (⟨x4.label,x4.b+(a.tokens.length:Int),x4.e+(a.tokens.length:Int),x4.parent⟩:Node):=zjx (by omega)
         have hst4:0≤x4.parent→((((mid a.nodes b.nodes (shN a.tokens.length a.nodes.length) k4).set ((a.nodes.length+k4:Nat):Int).toNat (⟨x4.label,x4.b+(a.tokens.length:Int),x4.e,x4.parent⟩:Node)).set ((a.nodes.length+k4:Nat):Int).toNat (⟨x4.label,x4.b+(a.tokens.length:Int),x4.e+(a.tokens.length:Int),x4.parent⟩:Node)).set ((a.nodes.length+k4:Nat):Int).toNat ⟨x4.label,x4.b+(a.tokens.length:Int),x4.e+(a.tokens.length:Int),x4.parent+(a.nodes.length:Int)⟩)=mid a.nodes b.nodes (shN a.tokens.length a.nodes.length) (k4+1):=fun h=>by have:=zub (f:=shN a.tokens.length a.nodes.length) (y:=(⟨x4.label,x4.b+(a.tokens.length:Int),x4.e,x4.parent⟩:Node)) (z:=(⟨x4.label,x4.b+(a.tokens.length:Int),x4.e+(a.tokens.length:Int),x4.parent⟩:Node)) hx4 (A:=a.nodes);rw[show(shN a.tokens.length a.nodes.length) x4=_ from by simp only[shN,zAz h];rfl]at this;exact this
         have hsn4:¬0≤x4.parent→((mid a.nodes b.nodes (shN a.tokens.length a.nodes.length) k4).set ((a.nodes.length+k4:Nat):Int).toNat (⟨x4.label,x4.b+(a.tokens.length:Int),x4.e,x4.parent⟩:Node)).set ((a.nodes.length+k4:Nat):Int).toNat (⟨x4.label,x4.b+(a.tokens.length:Int),x4.e+(a.tokens.length:Int),x4.parent⟩:Node)=mid a.nodes b.nodes (shN a.tokens.length a.nodes.length) (k4+1):=fun h=>by have:=zhe (f:=shN a.tokens.length a.nodes.length) (y:=(⟨x4.label,x4.b+(a.tokens.length:Int),x4.e,x4.parent⟩:Node)) hx4 (A:=a.nodes);rw[show(shN a.tokens.length a.nodes.length) x4=_ from by simp only[shN,zAy h];rfl]at this;exact this
         repeat' first|(apply z05;first|refine z0n ?_| (apply z0a;first|refine z02 (z23 hg4a rfl rfl rfl) rfl rfl ?_| refine z02 (z23 hg4b rfl rfl rfl) rfl rfl ?_| refine z02 (z23 hg4c rfl rfl rfl) rfl rfl ?_| refine z02 z16 rfl rfl ?_| refine z02 z1y rfl rfl ?_)|(apply z0c;first|refine z02 z0i rfl rfl ?_| refine z02 (z4k rfl rfl) rfl rfl ?_)|(apply z0k;refine z02 (z4r rfl (by first|(simp only[zA4];omega)|(simp only[zA4,List.length_set];omega))) rfl rfl ?_)|(apply z0t;first|refine z02 (z0z (y13 (by simp only;omega) (by simp only;omega))) rfl rfl ?_| refine z02 (z0z z1h) rfl rfl ?_)|(apply z0s;first|refine zmf rfl rfl rfl rfl rfl (fun _=>rfl) (by decide) rfl (by decide) (by omega) ?_|refine zm8 rfl rfl rfl (fun _=>rfl) (by decide) rfl (by decide) (by omega) ?_|refine z02 (z0w rfl) rfl rfl ?_| refine z02 (z47 rfl) rfl rfl ?_)|(apply z0j;first|refine z29 (za2 (z9d a ha)) ?_| refine z29 (za2 (z9d b hb)) ?_)|(apply z0f;first|refine z22 (⟨x4.label,x4.b+(a.tokens.length:Int),x4.e,x4.parent⟩:Node) (by rfl) (by rfl) (by rfl) (by rfl) hg4a (by rfl) (by rfl) (by rfl) (by rfl) ?_|refine z22 (⟨x4.label,x4.b+(a.tokens.length:Int),x4.e+(a.tokens.length:Int),x4.parent⟩:Node) (by rfl) (by rfl) (by rfl) (by rfl) hg4b (by rfl) (by rfl) (by rfl) (by rfl) ?_|refine z22 ⟨x4.label,x4.b+(a.tokens.length:Int),x4.e+(a.tokens.length:Int),x4.parent+(a.nodes.length:Int)⟩ (by rfl) (by rfl) (by rfl) (by rfl) hg4c (by rfl) (by rfl) (by rfl) (hst4 (by assumption)) ?_|refine z25 ?_))|(apply z06;first|refine z0m ?_|(apply z3n;refine z3o [0,1,2,3,4,5,7,8,9,10,11,12,13,14,15,16,17,19,27,34,37,38,39,40,47,89,116,153,188,217,235,254,255,256,257,261,100500,100501] (by repeat' (first|exact z2n.nil|apply z2n.yes rfl|apply z2n.no)) (by repeat' (first|exact z13.nil|apply z13.old rfl|apply z13.gone|apply z13.new rfl)) ?_))|(apply z07;first|apply z08|apply z00|apply z04|apply z01|apply z03|refine z0h (fun _=>?_) (fun _=>?_)| refine z0o ?_)
         all_goals try first|(first|exact z0e func27 _ (z11 rfl rfl rfl rfl rfl rfl rfl) ⟨_,rfl,Or.inl ⟨_,(by decide),rfl⟩,rfl⟩|(have e0:¬0<a.heads.length+b.heads.length:=(by omega);exact z0e func27 _ (z11 rfl rfl rfl rfl rfl rfl rfl) ⟨_,rfl,Or.inr (by rw[cat,zAy e0,zAy e0];rfl),rfl⟩)|(have e0:0<a.heads.length+b.heads.length:=(by omega);exact z0e func27 _ (z11 rfl rfl rfl rfl rfl rfl rfl) ⟨_,rfl,Or.inr (by rw[cat,zAz e0,zAz e0];rfl),rfl⟩))|(first|exact z0d (ih4 (k4+1) (by omega) (by omega)) rfl rfl|exact z0d (ih4 (k4+1) (by omega) (by omega)) rfl (by rw[←hsn4 (by assumption)];rfl))|(exfalso;(try clear ih1);(try clear ih2);(try clear ih3);(try clear ih4);(try clear ih5);(try clear hm12);omega)|((fail_if_success (refine z0r ?_));exfalso;(try clear ih1);(try clear ih2);(try clear ih3);(try clear ih4);(try clear ih5);(try clear hm12);simp_all;done)
        case neg =>
         obtain rfl:k4=b.nodes.length:=(by omega)
         refine z1f 181 rfl ?_
         repeat' first|(apply z05;first|refine z0n ?_| (apply z0a;first|refine z02 z16 rfl rfl ?_| refine z02 z1y rfl rfl ?_)|(apply z0c;refine z02 z0i rfl rfl ?_)|(apply z0t;refine z02 (z0z z1h) rfl rfl ?_)|(apply z0s;first|refine zmf rfl rfl rfl rfl rfl (fun _=>rfl) (by decide) rfl (by decide) (by omega) ?_|refine zm8 rfl rfl rfl (fun _=>rfl) (by decide) rfl (by decide) (by omega) ?_|refine z02 (z0w rfl) rfl rfl ?_)|(apply z0j;first|refine z29 (za2 (z9d a ha)) ?_| refine z29 (za2 (z9d b hb)) ?_)|(apply z0f;refine z25 ?_))|(apply z06;first|refine z0m ?_|(apply z3n;refine z3o [0,1,2,3,4,5,7,8,9,10,11,12,13,14,15,16,17,19,27,34,37,38,39,40,47,89,116,153,188,217,235,254,255,256,257,261,100500,100501] (by repeat' (first|exact z2n.nil|apply z2n.yes rfl|apply z2n.no)) (by repeat' (first|exact z13.nil|apply z13.old rfl|apply z13.gone|apply z13.new rfl)) ?_))|(apply z07;first|apply z08|apply z00|apply z04|apply z01|refine z0h (fun _=>?_) (fun _=>?_)| refine z0o ?_)
         all_goals try first|(first|exact z0e func27 _ (z11 rfl rfl rfl rfl rfl rfl rfl) ⟨_,rfl,Or.inl ⟨_,(by decide),rfl⟩,rfl⟩|(have e0:¬0<a.heads.length+b.heads.length:=(by omega);exact z0e func27 _ (z11 rfl rfl rfl rfl rfl rfl rfl) ⟨_,rfl,Or.inr (by rw[cat,zAy e0,zAy e0];rfl),rfl⟩)|(have e0:0<a.heads.length+b.heads.length:=(by omega);exact z0e func27 _ (z11 rfl rfl rfl rfl rfl rfl rfl) ⟨_,rfl,Or.inr (by rw[cat,zAz e0,zAz e0];rfl),rfl⟩))|(exfalso;(try clear ih1);(try clear ih2);(try clear ih3);(try clear ih4);(try clear ih5);(try clear hm12);omega)|((fail_if_success (refine z0r ?_));exfalso;(try clear ih1);(try clear ih2);(try clear ih3);(try clear ih4);(try clear ih5);(try clear hm12);simp_all;done)
         all_goals
          refine z1f 251 rfl ?_
          refine z0r ?_
          refine z0d (z1o (fun k5:Nat=>⟨273,[(4,PV.ptr (0,4) 0),(8,PV.d (D.lit (Value.int IntKind.i64 (↑a.tokens.length:Int)))),(10,PV.ptr (0,10) 0),(254,PV.d (ints (zam b))),(255,PV.d (D.lit (Value.int IntKind.i64 (↑(zam b).length:Int)))),(256,I .i64 (k5:Nat))],[(10,Blk.box [PV.d (D.slice (List.map Attr.cs a.attrs)),PV.d (D.slice (List.map (fun t=>[strs t]) (a.tokens++b.tokens))),PV.d (D.slice (List.map Text.cs (mid a.texts b.texts (shT (↑a.tokens.length:Int)) b.texts.length))),PV.d (D.slice (List.map Region.cs (mid a.regions b.regions (shR (↑a.tokens.length:Int)) b.regions.length))),PV.d (D.slice (List.map Node.cs (mid a.nodes b.nodes (shN (↑a.tokens.length:Int) (↑a.nodes.length:Int)) b.nodes.length))),PV.ref (0,247),PV.d (D.slice (List.map (fun x=>[z6o x]) (zhn a++zhn b)))]),(4,Blk.box [PV.d (D.lit z1t),PV.d (D.lit z1t),PV.d (D.lit z1t),PV.d (D.lit z1t),PV.d (D.lit z1t),PV.d (D.lit z1t),PV.d (D.lit z1t)]),(247,.row 3 1 ((zq4 (zam a) (zam b) (shH a.tokens.length) k5).map fun x=>[z2g x]))],H⟩) (fun k5:Nat=>k5≤(zam b).length) (fun k5:Nat=>(zam b).length-k5) ?_ 0 (zAf _)) rfl rfl
          intro k5 hk5 ih5
          have hl5:=zlq (zam a) (zam b) (shH a.tokens.length) k5
          by_cases hlt5:k5<(zam b).length
          case pos =>
           obtain⟨x5,hx5⟩:∃x,(zam b)[k5]? =some x:=⟨_,zA0 (by omega)⟩
           have hr5:=zo2 hh x5 (zA2 hx5)
           have hc5:=zj5 (A:=zam a) (f:=shH a.tokens.length) hx5
           repeat' first|(apply z05;first|refine z0n ?_| (apply z0a;first|refine z02 z16 rfl rfl ?_| refine z02 z2f rfl rfl ?_)|(apply z0c;refine z02 z0i rfl rfl ?_)|(apply z0k;refine z02 (z1a rfl (idx hx5)) rfl rfl ?_)|(apply z0t;refine z02 (z0z z1h) rfl rfl ?_)|(apply z0s;refine z99 _ rfl ?_)|(apply z0f;refine z25 ?_)|(apply z3c;refine z3b rfl ?_))|(apply z06;first|refine z0m ?_|(apply z3n;refine z3o [0,1,2,3,4,5,7,8,9,10,11,12,13,14,15,16,17,19,27,34,37,38,39,40,47,89,116,153,188,217,235,254,255,256,257,261,100500,100501] (by repeat' (first|exact z2n.nil|apply z2n.yes rfl|apply z2n.no)) (by repeat' (first|exact z13.nil|apply z13.old rfl|apply z13.gone|apply z13.new rfl)) ?_))|(apply z07;first|apply z08|apply z00|apply z04|apply z01|apply z03|refine z0h (fun _=>?_) (fun _=>?_)| refine z0o ?_)
           all_goals try first|(first|exact z0e func27 _ (z11 rfl rfl rfl rfl rfl rfl rfl) ⟨_,rfl,Or.inl ⟨_,(by decide),rfl⟩,rfl⟩|(have e0:¬0<a.heads.length+b.heads.length:=(by omega);exact z0e func27 _ (z11 rfl rfl rfl rfl rfl rfl rfl) ⟨_,rfl,Or.inr (by rw[cat,zAy e0,zAy e0];rfl),rfl⟩)|(have e0:0<a.heads.length+b.heads.length:=(by omega);exact z0e func27 _ (z11 rfl rfl rfl rfl rfl rfl rfl) ⟨_,rfl,Or.inr (by rw[cat,zAz e0,zAz e0];rfl),rfl⟩))|(refine z4n 269 247 rfl rfl ?_;first|exact z0d (ih5 (k5+1) (by omega) (by omega)) rfl (by rw[hc5,shH,zAz (by assumption)];rfl)|exact z0d (ih5 (k5+1) (by omega) (by omega)) rfl (by rw[hc5,shH,zAy (by assumption)];rfl))|(exfalso;(try clear ih1);(try clear ih2);(try clear ih3);(try clear ih4);(try clear ih5);(try clear hm12);omega)|((fail_if_success (refine z0r ?_));exfalso;(try clear ih1);(try clear ih2);(try clear ih3);(try clear ih4);(try clear ih5);(try clear hm12);simp_all;done)
          case neg =>
           obtain rfl:k5=(zam b).length:=(by omega)
           refine z1f 247 rfl ?_
           repeat' first|(apply z05;first|refine z0n ?_| (apply z0a;refine z02 z1y rfl rfl ?_)|(apply z0f;refine z25 ?_))|(apply z06;first|refine z0m ?_|(apply z3n;refine z3o [0,1,2,3,4,5,7,8,9,10,11,12,13,14,15,16,17,19,27,34,37,38,39,40,47,89,116,153,188,217,235,254,255,256,257,261,100500,100501] (by repeat' (first|exact z2n.nil|apply z2n.yes rfl|apply z2n.no)) (by repeat' (first|exact z13.nil|apply z13.old rfl|apply z13.gone|apply z13.new rfl)) ?_))|(apply z07;first|apply z08|apply z00|apply z04|apply z01|refine z0h (fun _=>?_) (fun _=>?_)| refine z0o ?_)
           all_goals try first|(first|exact z0e func27 _ (z11 rfl rfl rfl rfl rfl rfl rfl) ⟨_,rfl,Or.inl ⟨_,(by decide),rfl⟩,rfl⟩|(have e0:¬0<a.heads.length+b.heads.length:=(by omega);exact z0e func27 _ (z11 rfl rfl rfl rfl rfl rfl rfl) ⟨_,rfl,Or.inr (by rw[cat,zAy e0,zAy e0];rfl),rfl⟩)|(have e0:0<a.heads.length+b.heads.length:=(by omega);exact z0e func27 _ (z11 rfl rfl rfl rfl rfl rfl rfl) ⟨_,rfl,Or.inr (by rw[cat,zAz e0,zAz e0];rfl),rfl⟩))|(exfalso;(try clear ih1);(try clear ih2);(try clear ih3);(try clear ih4);(try clear ih5);(try clear hm12);omega)|((fail_if_success (refine z0r ?_));exfalso;(try clear ih1);(try clear ih2);(try clear ih3);(try clear ih4);(try clear ih5);(try clear hm12);simp_all;done)
attribute [local irreducible] z4v z2b
def zna:List Str:=[⟨#[116,48]⟩,⟨#[116,49]⟩,⟨#[116,50]⟩]
theorem znp:∀s∈zna,s.size≤10:=by simp only[zna,zAc,List.not_mem_nil,or_false];rintro s (rfl|rfl|rfl) <;> decide
theorem z6e.heads{n:Nat}{hs:List Int}{rs:List Str}(h:z6e n hs rs)(hn:n≤1000000):∀x∈hs,-1≤x∧x≤1000000:=by
 obtain⟨rank,hr⟩:=h.range
 intro x hx
 obtain⟨i,hi⟩:=zAw hx
 rcases hr i x hi with e|⟨h1,h2,_⟩ <;> omega
theorem zkn{s t:Nat}{a b:z10}(ha:Made s a)(hb:Made t b)(hs:s≤10)(ht:t≤10):NF prog 27 [a.d,b.d] (y2o a b):=by
 obtain⟨p,hp⟩:=ha.nodes
 obtain⟨q,hq⟩:=hb.nodes
 exact zso a b (ha.small hs) (hb.small ht) (fun i x hx=>(hp.bounds (by omega) i x hx).2.2.2.2.2) (fun i x hx=>(hq.bounds (by omega) i x hx).2.2.2.2.2) (hb.heads.heads (by have:=hb.tok1;omega))
theorem zlx(l:List Int)(k:Nat)(most:Int)(hl:l.length≤120)(hk:k≤120)(hmo:1≤most∧most≤7) :
 Rel prog 10 [.ptr (0,500) 0,I .i64 most] [((0,500),z2u l k)]
  (fun x:z10 × Nat=>(∃s,s≤3∧Made s x.1)∧x.2≤120) (fun x=>x.1.d) (fun x=>[((0,500),z2u l x.2)]):=by
 refine zfd fun H hH=>?_
 have hH0:=hH ((0,500),z2u l k) (by simp)
 refine z0g func10 (by kernel_rfl) rfl (by simp) ?_
 dsimp only[f10]
 refine z57 500 0 500 hH0 rfl rfl ?_
 refine z0d (tm':=[(0,.ptr (0,500) 0),(1,I .i64 most),(100500,.al (0,500) (1,500))]) (hp':=[(500,z2u l k)]) ?_ rfl rfl
 repeat' first|(apply z05;first|refine z0n ?_| (apply z0j;first|(refine zt3 hl rfl rfl (by decide) (by omega) (by assumption) fun _ _ _=>?_)|(refine z6f (zfg l _ _ most hl (by assumption) (by omega) (by decide)) rfl rfl (by decide) ?_;rintro⟨c,k1⟩ ⟨d1,d2⟩;simp only at d1 d2⊢))|(apply z0f;refine z25 ?_)|(apply z0l;refine z0b z2e ?_))|(apply z06;first|refine z0m ?_|apply z09)|(apply z07;first|apply z08|apply z00|apply z01)
 refine z0r ?_
 refine z0d (z1o (fun q:Int × z10 × Nat=>⟨36,[(0,.ptr (0,500) 0),(1,I .i64 most),(4,.ptr (0,4) 0),(5,.ptr (0,5) 0),(6,I .i64 q.1),(100500,.al (0,500) (1,500))],
  [(500,z2u l q.2.2),(5,.box (q.2.1.cs.map .d)),(4,.box [.d (.lit z1t),.d (.lit z1t),.d (.lit z1t),.d (.lit z1t),.d (.lit z1t),.d (.lit z1t),.d (.lit z1t)])],upd H (0,500) .gone⟩)
  (fun q=>0≤q.1∧q.1≤2∧(∃s:Nat,s≤3-q.1∧Made s q.2.1)∧q.2.2≤120)
  (fun q=>q.1.toNat) ?_ ⟨_,c,_⟩ ⟨(by assumption),(by simp only;omega),⟨1,(by simp only;omega),d1.made hmo.2⟩,(by assumption)⟩) rfl rfl
 intro⟨m,a,kt⟩ ⟨h1,h2,⟨s,hs,h3⟩,h4⟩ ih
 simp only at h1 h2 hs h3 h4 ih⊢
 by_cases hm:0<m
 ·have hx:zna[m.toNat]? =some (atL zna m):=z3z (by omega) (by have:zna.length=3:=rfl;omega)
  repeat' first|(apply z05;first|refine z0n ?_| (apply z0a;first|refine z02 z1r rfl rfl ?_| refine z02 z2f rfl rfl ?_| refine z02 z1y rfl rfl ?_)|(apply z0k;refine z02 (z1a rfl (z6h hx)) rfl rfl ?_)|(apply z0t;refine z02 (z2l z1h) rfl rfl ?_)|(apply z0j;first|(refine z6f (zfg l _ _ most hl (by assumption) (by omega) (z7c znp _)) rfl rfl (by decide) ?_;rintro⟨b,k2⟩ ⟨e1,e2⟩;simp only at e1 e2⊢)|(refine z8h (zkn h3 (e1.made hmo.2) (by omega) (by decide)) rfl (by decide) (fun p hp=>?_);rcases hp with⟨e,he,rfl⟩|rfl))|(apply z0f;refine z25 ?_)|(apply z0l;refine z0b z2e ?_)|(apply z3c;refine z3b (ys:=zna.map fun x=>[z6o x]) rfl ?_))|(apply z06;first|refine z0m ?_|apply z09)|(apply z07;first|apply z08|apply z00|refine z1j ?_| apply z04|apply z01|apply z03|refine z0h (fun _=>?_) (fun _=>?_)| refine z0o ?_)
  all_goals try omega
  all_goals first
   | exact z0d (ih ⟨m-1,a,k2⟩ ⟨(by simp only;omega),(by simp only;omega),⟨s,(by simp only;omega),h3⟩,e2⟩ (by simp only;omega)) rfl rfl
   | exact z0d (ih ⟨m-1,cat a b,k2⟩ ⟨(by simp only;omega),(by simp only;omega),⟨s+1,(by simp only;omega),h3.cat (e1.made hmo.2)⟩,e2⟩ (by simp only;omega)) rfl rfl
   | exact z0d (ih ⟨m-1,zwd,k2⟩ ⟨(by simp only;omega),(by simp only;omega),⟨s+1,(by simp only;omega),by exfalso;simp_all⟩,e2⟩ (by simp only;omega)) rfl rfl
 ·repeat' (first|(apply z05;first|refine z0n ?_| (apply z0a;refine z02 z1r rfl rfl ?_)|(apply z0f;refine z25 ?_)|(apply z3c;refine z3b rfl ?_))|(apply z06;first|refine z0m ?_|apply z09)|(apply z07;first|apply z08|apply z00|apply z04|apply z01|refine z0h (fun _=>?_) (fun _=>?_)| refine z0o ?_))
  all_goals try omega
  all_goals
   refine z3s 500 0 500 (raw:=z2u l kt) rfl rfl rfl rfl rfl ?_
   exact z0e func10 _ (z1x rfl rfl rfl rfl rfl rfl) ⟨(a,kt),⟨⟨s,by omega,h3⟩,h4⟩,rfl,z3g _ _ _ _⟩
theorem ztj{c:z10}(h:Wf c){a:Int}(ha:token c a=true):way c a=a::(if head c a=-1 then []else way c (head c a)):=by
 rw[way,zaf h ha]
 by_cases e:head c a=-1
 ·rw[zAz e,zAz e]
 ·rw[zAy e,zAy e,way]
theorem zlt{c:z10}(h:Wf c):∀(k:Nat) (a:Int),token c a=true→∀x,(way c a)[k]? =some x→(way c a).drop k=way c x
 | 0,a,ha,x,hx=>by
  rw[way]at hx;simp at hx;subst hx;rfl
 | k+1,a,ha,x,hx=>by
  rw[ztj h ha]at hx⊢
  by_cases e:head c a=-1
  ·rw[zAz e]at hx;simp at hx
  ·rw[zAy e]at hx⊢
   rw[List.getElem?_cons_succ]at hx
   rw[List.drop_succ_cons]
   exact zlt h k _ (zft h ((z2p c a).1 ha).1 e) x hx
end Go.Proofs.YtonhfccmeammbaaGreatDoor
namespace Go.Proofs.YtonhfccmeammbaaGreatDoor
open Go.Ab
set_option maxHeartbeats 20000000
attribute [local irreducible] Run Ops Op1 z1z Val Tr z0q z1v NF Rel
structure Lf where
 op:Int
 a:Str
 b:Str
 name:Str
 mn:Int
 mx:Int
 args:List Str
def Lf.cs(g:Lf):List D:=[z2g g.op,z6o g.a,z6o g.b,z6o g.name,z6o ⟨#[]⟩,z6o ⟨#[]⟩,zji false,z2g g.mn,z2g g.mx,strs g.args,.slice []]
abbrev Lf.d(g:Lf):PV:=.d (.agg g.cs)
theorem y2x(g:Lf)(h:g.op≠0):z0q prog 57 [g.d] (B false):=by
 refine z0y fun H=>?_
 refine z0g func57 (by kernel_rfl) rfl (by simp) ?_
 dsimp only[f57]
 repeat' first|(apply z05;first|refine z0n ?_| (apply z0a;refine z02 z16 rfl rfl ?_)|(apply z0c;refine z02 z0i rfl rfl ?_)|(apply z0s;first|refine z02 (z0w rfl) rfl rfl ?_| refine z02 (z4a rfl) rfl rfl ?_)|(apply z18;refine z0b z1m ?_))|(apply z06;first|refine z0m ?_|apply z09|refine z1g ?_| refine z1p (fun _=>?_) fun _=>?_)|(apply z07;first|apply z08|apply z00)
 all_goals first
  | omega
  | exact z0e func57 _ z0p ⟨rfl,rfl⟩
theorem zrg(g:Lf):z0q prog 58 [g.d,I .i64 0,I .i64 1] (.tup [I .i64 1,I .i64 1]):=by
 refine z0y fun H=>?_
 refine z0g func58 (by kernel_rfl) rfl (by simp) ?_
 dsimp only[f58]
 repeat' first|(apply z05;first|refine z0n ?_| (apply z0a;refine z02 z16 rfl rfl ?_)|(apply z0c;refine z02 z0i rfl rfl ?_)|(apply z0t;refine z02 (z0z z1h) rfl rfl ?_)|(apply z0s;refine z02 (z4a rfl) rfl rfl ?_)|(apply z18;refine z0b z1m ?_))|(apply z06;first|refine z0m ?_|apply z09)|(apply z07;first|apply z08|apply z00|apply z01)
 refine z0r ?_
 refine z1u ?_
 repeat' first|(apply z05;refine z0n ?_)|(apply z06;first|refine z0m ?_|apply z09)|(apply z07;first|apply z08|apply z00|refine z15 ?_| refine z0o ?_)
 all_goals first
  | omega
  | exact z0e func58 _ z2s ⟨rfl,rfl⟩
theorem zvu(fv:PV):z0q prog 91 [.d (.slice []),fv] (I .i64 (-1)):=by
 refine z0y fun H=>?_
 refine z0g func91 (by kernel_rfl) rfl (by simp) ?_
 dsimp only[f91]
 repeat' first|(apply z05;first|refine z0n ?_| (apply z0s;refine z02 (z4a rfl) rfl rfl ?_))|(apply z06;first|refine z0m ?_|apply z09)|(apply z07;first|apply z08|apply z00|apply z01)
 refine z0r ?_
 refine z1u ?_
 repeat' first|(apply z05;refine z0n ?_)|(apply z06;first|refine z0m ?_|apply z09)|(apply z07;first|apply z08|apply z00|refine z15 ?_| refine z0o ?_)
 all_goals first
  | omega
  | exact z0e func91 _ z0p ⟨rfl,rfl⟩
theorem zmx(fv:PV):z0q prog 63 [.d (.slice []),fv] (B false):=by
 refine z0y fun H=>?_
 refine z0g func63 (by kernel_rfl) rfl (by simp) ?_
 dsimp only[f63]
 repeat' first|(apply z05;first|refine z0n ?_| (apply z0j;refine z29 (zvu _) ?_))|(apply z06;first|refine z0m ?_|apply z09)|(apply z07;first|apply z08|apply z00)
 all_goals first
  | omega
  | exact z0e func63 _ z0p ⟨rfl,rfl⟩
theorem y0n(g:Lf)(h:g.op=6∨g.op=7∨g.op=8∨g.op=9∨g.op=10)(h1:g.op≠9→g.name=⟨#[]⟩)(h2:g.op≠10→g.mn=0∧g.mx=0)(h3:g.op≠8→g.args=[])(h4:g.op=10→g.b=⟨#[]⟩)(hl:g.args.length≤1000000):z0q prog 60 [g.d] (B true):=by
 refine z0y fun H=>?_
 refine z0g func60 (by kernel_rfl) rfl (by simp) ?_
 dsimp only[f60]
 obtain⟨op,a,b,name,mn,mx,args⟩:=g
 simp only at h h1 h2 h3 h4 hl
 rcases h with rfl|rfl|rfl|rfl|rfl
 ·exact zD13
 ·exact zD13
 ·obtain rfl:=h1 (by decide);obtain⟨rfl,rfl⟩:=h2 (by decide)
  repeat' first|(apply z05;first|refine z0n ?_| (apply z0a;refine z02 z16 rfl rfl ?_)|(apply z0c;refine z02 z0i rfl rfl ?_)|(apply z0t;refine z02 (z9z rfl) rfl rfl ?_)|(apply z0s;first|refine z02 (z0w rfl) rfl rfl ?_| refine z02 (z4a rfl) rfl rfl ?_)|(apply z0f;refine z25 ?_)|(apply z0l;refine z0b z2e ?_)|(apply z18;refine z0b z1m ?_)|(apply z1n;refine z2y ?_))|(apply z06;first|refine z0m ?_|apply z09|refine z1g ?_| refine z1p (fun _=>?_) fun _=>?_)|(apply z07;first|apply z08|apply z00|refine z1j ?_| refine z15 ?_| apply z01|apply z03)
  all_goals exact zD28
 ·obtain⟨rfl,rfl⟩:=h2 (by decide);obtain rfl:=h3 (by decide)
  repeat' first|(apply z05;first|refine z0n ?_| (apply z0a;refine z02 z16 rfl rfl ?_)|(apply z0c;refine z02 z0i rfl rfl ?_)|(apply z0t;refine z02 (z9z rfl) rfl rfl ?_)|(apply z0s;first|refine z02 (zdx rfl) rfl rfl ?_| refine z02 (z0w rfl) rfl rfl ?_| refine z02 (z4a rfl) rfl rfl ?_)|(apply z0f;refine z25 ?_)|(apply z0l;refine z0b z2e ?_)|(apply z18;refine z0b z1m ?_)|(apply z1n;refine z2y ?_))|(apply z06;first|refine z0m ?_|apply z09|refine z1g ?_| refine z1p (fun _=>?_) fun _=>?_)|(apply z07;first|apply z08|apply z00|refine z1j ?_| refine z15 ?_| apply z01|apply z03)
  all_goals exact zD28
 ·obtain rfl:=h1 (by decide);obtain rfl:=h3 (by decide);obtain rfl:=h4 rfl
  repeat' first|(apply z05;first|refine z0n ?_| (apply z0a;refine z02 z16 rfl rfl ?_)|(apply z0c;refine z02 z0i rfl rfl ?_)|(apply z0t;refine z02 (z9z rfl) rfl rfl ?_)|(apply z0s;first|refine z02 (zdx rfl) rfl rfl ?_| refine z02 (z0w rfl) rfl rfl ?_| refine z02 (z4a rfl) rfl rfl ?_)|(apply z0f;refine z25 ?_)|(apply z0l;refine z0b z2e ?_)|(apply z18;refine z0b z1m ?_)|(apply z1n;refine z2y ?_))|(apply z06;first|refine z0m ?_|apply z09|refine z1g ?_| refine z1p (fun _=>?_) fun _=>?_)|(apply z07;first|apply z08|apply z00|refine z1j ?_| refine z15 ?_| apply z01|apply z2o|apply z03)|(apply z2m;first|(apply z1e;refine z2c mix ?_)|(apply z0v;refine z0x z16 rfl rfl ?_)|(apply z0u;refine z0x z0i rfl rfl ?_)|(apply z2r;refine z6i (by first|exact rfl|exact⟨_,rfl,rfl,rfl⟩) rfl rfl rfl rfl rfl rfl ?_))
  all_goals exact zD28
end Go.Proofs.YtonhfccmeammbaaGreatDoor
