/- A part of the proof: T52 to T60. -/
import Derived.Test.YtonhfccmeammbaaGreatDoorOTG
import Derived.Test.YtonhfccmeammbaaGreatDoorOc
set_option linter.all false
namespace Go.Proofs.YtonhfccmeammbaaGreatDoor
open Go.Ab
set_option maxHeartbeats 20000000
attribute [local irreducible] Run Ops Op1 z1r Val Tr z0j z2f NF Rel
structure zfj (g:Lf):Prop where
 op:g.op=6∨g.op=7∨g.op=8∨g.op=9∨g.op=10
 h1:g.op≠9→g.name=⟨#[]⟩
 h2:g.op≠10→g.mn=0∧g.mx=0
 h3:g.op≠8→g.args=[]
 h4:g.op=10→g.b=⟨#[]⟩
 hl:g.args.length≤1000000
theorem zif (g:Lf) (h:zfj g):z0j Tryz.prog 59 [g.d,.fn (.func 60) [] []] (B true):=by
 refine z10 fun H=>?_
 refine z0e Tryz.func59 (by kernel_rfl) rfl (by simp) ?_
 dsimp only[Tryz.f59]
 repeat' (first|(apply z05;(first|refine z0r ?_| (apply z0c;(first|refine z02 z2u rfl rfl ?_| refine z02 z1k rfl rfl ?_))|(apply z0d;(refine z02 z1h rfl rfl ?_))|(apply z0w;(first|refine zda (first:=[]) (cap:=[]) (ps:=[g.d]) (zhz g h.op h.h1 h.h2 h.h3 h.h4 h.hl) rfl rfl (by decide) ?_|refine z3e (z70 _) ?_))|(apply z1j;(refine z0g (z7w rfl rfl rfl rfl rfl (by decide)) ?_))|refine z5b rfl rfl (by decide) ?_))|(apply z06;(first|refine z0q ?_|apply z0b))|(apply z07;(first|apply z08|apply z00)))
 all_goals first
  | exact z0a Tryz.func59 _ z1m ⟨rfl,rfl⟩
  | (exfalso;simp_all;done)
theorem zh3 (g:Lf) (h:zfj g):z0j Tryz.prog 29 [g.d] (B true):=by
 have hop:g.op≠0:=by have:=h.op;omega
 refine z10 fun H=>?_
 refine z0e Tryz.func29 (by kernel_rfl) rfl (by simp) ?_
 dsimp only[Tryz.f29]
 repeat' (first|(apply z05;(first|refine z0r ?_| (apply z0c;(refine z02 z2u rfl rfl ?_))|(apply z0w;(first|refine z3e (zje g hop) ?_| refine z3e (ze6 g) ?_| refine z3e (zif g h) ?_))|(apply z1j;(refine z0g z31 ?_))))|(apply z06;(first|refine z0q ?_|apply z0b))|(apply z07;(first|apply z08|apply z00|refine z1c rfl ?_|apply z09)))
 all_goals first
  | exact z0a Tryz.func29 _ z1m ⟨rfl,rfl⟩
  | (exfalso;simp_all;done)
theorem zcb (c:z0i) (g:Lf) (h:zfj g):z0j Tryz.prog 30 [c.d,g.d] (B true):=by
 have hop:g.op≠2∧g.op≠3:=by have:=h.op;omega
 refine z10 fun H=>?_
 refine z0e Tryz.func30 (by kernel_rfl) rfl (by simp) ?_
 dsimp only[Tryz.f30]
 repeat' (first|(apply z05;(first|refine z0r ?_| (apply z0c;(refine z02 z1k rfl rfl ?_))|(apply z0d;(refine z02 z1h rfl rfl ?_))|(apply z0w;(refine z3e (z70 _) ?_))|(apply z1j;(refine z0g z31 ?_))|refine z5b rfl rfl (by decide) ?_))|(apply z06;(first|refine z0q ?_|apply z0b))|(apply z07;(first|apply z08|apply z00|apply z09|apply z01|apply z04|refine z0m (fun _=>?_) (fun _=>?_))))
 all_goals first
  | (exfalso;omega)
  | exact z0a Tryz.func30 _ z1m ⟨rfl,rfl⟩
  | (exfalso;simp_all;done)
def zej (c:z0i) (t:Int):Bool:=decide (t< -1)||decide ((c.tokens.length:Int)≤t)
theorem zh1 (c:z0i) (t:Int) (k sl:Nat) (hc:c.tokens.length≤1000000):z2f Tryz.prog 66 [.d (z3b t),.ptr (k,sl) 0] [((k,sl),.box (c.cs.map .d))] [] (B (zej c t)):=by
 refine z5e fun H hH=>?_
 have hH0:=hH ((k,sl),.box (c.cs.map .d)) (by simp)
 refine z0e Tryz.func66 (by kernel_rfl) rfl (by simp) ?_
 dsimp only[Tryz.f66]
 repeat' (first|(apply z05;(first|refine z0r ?_| (apply z0c;(refine z02 (z1k (b:=.box (c.cs.map .d))) rfl (bk1 hH0) ?_))|(apply z0d;(refine z02 z1h rfl rfl ?_))|(apply z12;(refine z02 (z0u rfl) rfl rfl ?_))))|(apply z06;(first|refine z0q ?_|apply z0b|refine z1z ?_| refine z14 rfl rfl (fun _=>?_) (fun _=>?_)))|(apply z07;(first|apply z08|apply z00)))
 all_goals first
  | (refine z0a Tryz.func66 _ z1m ⟨?_,rfl⟩;unfold zej;simp_all;done)
  | (refine z0a Tryz.func66 _ z1m ⟨?_,rfl⟩;rw[show zej c t=decide ((c.tokens.length:Int)≤t) from by unfold zej;rw[zAk (p:=t< -1) (by assumption),Bool.false_or]])
abbrev z7v (b e:Int) (ls:List Int):PV:=.d (.agg [z3b b,z3b e,ints ls])
theorem zgx (c:z0i) (labs:List Str) (b e:Int) (ls:List Int) (hc:c.tokens.length≤1000000) (hl:ls.length≤1000000) (hn:labs.length≤1000000) (hll:ls.length=labs.length):z0j Tryz.prog 31 [c.d,.d (strs labs),z7v b e ls] (B (!ls.any (zej c))):=by
 refine z10 fun H=>?_
 refine z0e Tryz.func31 (by kernel_rfl) rfl (by simp) ?_
 dsimp only[Tryz.f31]
 repeat' (first|(apply z05;(first|refine z0r ?_| (apply z0c;(refine z02 z1k rfl rfl ?_))|(apply z0d;(refine z02 z1h rfl rfl ?_))|(apply z12;(refine z02 (z0u rfl) rfl rfl ?_))|(apply z0w;(refine z9o (zho (kk:=0) (zej c) ls hl (fun k x _=>zh1 c x k 3 hc)) rfl rfl (by decide) ?_))|(apply z1j;(refine z0g z31 ?_))|refine z5b rfl rfl (by decide) ?_))|(apply z06;(first|refine z0q ?_|apply z0b|refine z1z ?_| refine z14 rfl rfl (fun _=>?_) (fun _=>?_)))|(apply z07;(first|apply z08|apply z00)))
 all_goals first
  | (exfalso;omega)
  | exact z0a Tryz.func31 _ z1m ⟨rfl,rfl⟩
theorem zbs (l:List Str) (x:Str) (hl:l.length≤1000000):z0j Tryz.prog 93 [.d (strs l),S x] (I .i64 (z41 (fun y=>decide (x=y)) l 0)):=by
 refine z10 fun H=>?_
 refine z0e Tryz.func93 (by kernel_rfl) rfl (by simp) ?_
 dsimp only[Tryz.f93]
 repeat' (first|(apply z05;(first|refine z0r ?_| (apply z12;(refine z02 (z0u rfl) rfl rfl ?_))))|(apply z06;(first|refine z0q ?_|apply z0b))|(apply z07;(first|apply z08|apply z00|apply z01)))
 refine z0k ?_
 refine z03 (z1x (fun q:Nat=>⟨19,[(0,.d (strs l)),(1,S x),(7,I .i64 l.length),(8,I .i64 (q:Nat))],[],H⟩) (fun q=>q≤l.length∧z41 (fun y=>decide (x=y)) (l.drop q) q=z41 (fun y=>decide (x=y)) l 0) (fun q=>l.length-q) ?_ 0 ⟨zAc _,rfl⟩) rfl rfl
 intro k ⟨hk,hi⟩ ih
 by_cases hlt:k<l.length
 · obtain⟨y,hy⟩:∃ x,l[k]? =some x:=⟨_,zA0 hlt⟩
   rw[z3n hy,z41] at hi
   repeat' (first|(apply z05;(first|refine z0r ?_| (apply z0c;(refine z02 z2a rfl rfl ?_))|(apply z0o;(refine z02 (z1p rfl (idx hy)) rfl rfl ?_))|(apply z15;(refine z02 (z1a z1y) rfl rfl ?_))))|(apply z06;(first|refine z0q ?_|apply z0b))|(apply z07;(first|apply z08|apply z00|apply z09|apply z01|apply z04|refine z0m (fun _=>?_) (fun _=>?_)| refine z0p ?_)))
   all_goals try (exfalso;omega)
   all_goals first
    | (refine z0a Tryz.func93 _ z1m ⟨?_,rfl⟩;rw[← hi,zAs (by simp_all)])
    | exact z03 (ih (k+1) ⟨by omega,by rw[← hi,zAr (by simp_all)]⟩ (by omega)) rfl rfl
 · obtain rfl:k=l.length:=by omega
   rw[List.drop_length,z41] at hi
   repeat' (first|(apply z05;(refine z0r ?_))|(apply z06;(first|refine z0q ?_|apply z0b))|(apply z07;(first|apply z08|apply z00|apply z09|apply z01|refine z0m (fun _=>?_) (fun _=>?_)| refine z0p ?_)))
   all_goals try (exfalso;omega)
   all_goals exact z0a Tryz.func93 _ z1m ⟨by rw[← hi],rfl⟩
def z30:List Str:=[⟨#[120]⟩,⟨#[121]⟩]
theorem z6k (b e i j:Int):z0j Tryz.prog 69 [.d (strs z30),z7v b e [i,j],S ⟨#[120]⟩] (I .i64 i):=by
 have hx:z0j Tryz.prog 93 [.d (strs z30),S ⟨#[120]⟩] (I .i64 0):=zbs z30 ⟨#[120]⟩ (by decide)
 have hv:([i,j]:List Int)[(0:Int).toNat]? =some i:=rfl
 exact zD7
theorem z7k (b e i j:Int):z0j Tryz.prog 69 [.d (strs z30),z7v b e [i,j],S ⟨#[121]⟩] (I .i64 j):=by
 have hx:z0j Tryz.prog 93 [.d (strs z30),S ⟨#[121]⟩] (I .i64 1):=zbs z30 ⟨#[121]⟩ (by decide)
 have hv:([i,j]:List Int)[(1:Int).toNat]? =some j:=rfl
 exact zD7
def z5f (c:z0i) (a:Int) (k:Nat):List Str:=((way c a).take k).map (zh0 c)
theorem zg0 {c:z0i} (h:Wf c) {a:Int} (ha:token c a=true) {k:Nat} {t:Int} (ht:(way c a)[k]? =some t):(up c a).drop k=up c t∧token c t=true:=by
 have e:=zbq h k a ha t ht
 refine⟨?_,zd4 h ha t (zA2 ht)⟩
 have:=congrArg (List.drop 1) e
 rw[List.drop_drop] at this
 simpa[way] using this
theorem zi7 (c:z0i) (a:Int) (k:Nat):(way c a)[k+1]? =(up c a)[k]?:=by simp[way]
theorem zcx {c:z0i} (hw:Wf c) {a:Int} (ha:token c a=true):z0j Tryz.prog 72 [c.d,I .i64 a] (.tup [.d (ints (up c a)),.d (strs (z5f c a (up c a).length))]):=by
 have htok:=hw.tok
 have hul:=z9l c a
 have hlen:(way c a).length=(up c a).length+1:=rfl
 have hrl:=hw.rel
 have hhd:=hw.hd
 refine z10 fun H=>?_
 refine z0e Tryz.func72 (by kernel_rfl) rfl (by simp) ?_
 dsimp only[Tryz.f72]
 repeat' (first|(apply z05;(first|refine z46 rfl rfl rfl (by decide) ?_|(apply z1j;(refine z0g z31 ?_))))|(apply z06;(first|refine z0q ?_|apply z0b))|(apply z07;(first|apply z08|apply z00|apply z01)))
 refine z0k ?_
 refine z03 (z1x (fun q:Nat × Int=>⟨58,[(1,I .i64 q.2),(2,.ptr (0,2) 0),(6,.ref (0,6)),(7,.ref (0,7))],[(7,.row 9 1 ((z5f c a q.1).map fun x=>[z4o x])),(6,.row 3 1 (((up c a).take q.1).map fun x=>[z3b x])),(2,.box (c.cs.map .d))],H⟩) (fun q=>(way c a)[q.1]? =some q.2) (fun q=>(way c a).length-q.1) ?_ (0,a) (by simp[way])) rfl rfl
 intro ⟨k,t⟩ hk ih
 simp only at hk ih ⊢
 have hkl:=(zA1.1 hk).1
 obtain⟨hdr,htt⟩:=zg0 hw ha hk
 have h0:=(z2c c t).1 htt
 have htl:((up c a).take k).length=k:=by simp;omega
 have hrk:(z5f c a k).length=k:=by simp[z5f];omega
 have hsmall:(z5f c a k).length<137438953472:=by omega
 have hsmall2:((up c a).take k).length<137438953472:=by omega
 have hend:up c t=[]→k=(up c a).length:=fun e=>by
  have:=congrArg List.length hdr
  rw[e,List.length_drop] at this;simp at this;omega
 have hfin:up c t=[]→(up c a).take k=up c a∧z5f c a k=z5f c a (up c a).length:=fun e=>by rw[hend e];simp
 cases hh:c.heads[t.toNat]? with
 | none =>
  have hnh:¬ t<c.heads.length:=by rw[List.getElem?_eq_none_iff] at hh;omega
  have he:up c t=[]:=by rw[z7i hw htt,zAs (by simp[head,hh])]
  obtain⟨e1,e2⟩:=hfin he
  repeat' (first|(apply z05;(first|refine z0r ?_| (apply z0c;(refine z02 z1k rfl rfl ?_))|(apply z0d;(refine z02 z1h rfl rfl ?_))|(apply z12;(first|refine z02 (z0u rfl) rfl rfl ?_| refine z02 (z2n rfl) rfl rfl ?_))))|(apply z06;(first|refine z0q ?_|apply z0b|refine z1z ?_| refine z14 rfl rfl (fun _=>?_) (fun _=>?_)))|(apply z07;(first|apply z08|apply z00|refine z1c rfl ?_|apply z09|apply z01|refine z0m (fun _=>?_) (fun _=>?_)| refine z0p ?_)))
  all_goals try (exfalso;omega)
  all_goals
   refine z11 6 rfl ?_
   refine z11 7 rfl ?_
   exact z0a Tryz.func72 _ z20 ⟨by rw[e1,e2];rfl,rfl⟩
 | some x =>
  have hxl:=(zA1.1 hh).1
  obtain⟨r,hr⟩:∃ r,c.rels[t.toNat]? =some r:=⟨_,zA0 (by omega)⟩
  have hrt:zh0 c t=r:=by simp[zh0,hr]
  have hbad:(x<0∨(c.tokens.length:Int)≤x)→up c t=[]:=fun e=>by
   rw[z7i hw htt,zAs]
   simp only[head,hh]
   rw[zAr]
   rw[z2c];omega
  have hgood:0≤x→x<c.tokens.length→head c t=x:=fun e1 e2=>by
   simp only[head,hh]
   rw[zAs ((z2c c x).2 ⟨e1,e2⟩)]
  have hgo:0≤x→x<c.tokens.length→(way c a)[k+1]? =some x∧(up c a).take (k+1)=(up c a).take k++[x]∧z5f c a (k+1)=z5f c a k++[r]:=fun e1 e2=>by
   have hu:up c t=x::up c x:=by rw[z7i hw htt,zAr (by rw[hgood e1 e2];omega),hgood e1 e2]
   have hx:(up c a)[k]? =some x:=by
    have:=congrArg (fun l=>l[0]?) (hdr.trans hu)
    simpa[List.getElem?_drop] using this
   refine⟨by rw[zi7];exact hx,by rw[List.take_add_one,hx];rfl,?_⟩
   rw[z5f,List.take_add_one,hk,List.map_append]
   simp[z5f,hrt]
  have hfull:¬ ((((up c a).take k).length:Nat):Int)<(c.tokens.length:Int)→up c t=[]:=fun e=>by
   have:k=(up c a).length:=by omega
   rw[← hdr,this];simp
  repeat' (first|(apply z05;(first|refine z0r ?_| (apply z0c;(first|refine z02 z1k rfl rfl ?_| refine z02 z2a rfl rfl ?_))|(apply z0d;(refine z02 z1h rfl rfl ?_))|(apply z0o;(first|refine z02 (z2p rfl h0.1 (z5i hh) rfl) rfl rfl ?_| refine z02 (z2p rfl h0.1 (z5i hr) rfl) rfl rfl ?_))|(apply z12;(first|refine z02 (z0u rfl) rfl rfl ?_| refine z02 (z2n rfl) rfl rfl ?_| refine z7t _ rfl ?_))|(apply z3f;(refine z3h rfl ?_))))|(apply z06;(first|refine z0q ?_|apply z0b|refine z1z ?_| refine z14 rfl rfl (fun _=>?_) (fun _=>?_)))|(apply z07;(first|apply z08|apply z00|refine z28 rfl ?_|refine z1c rfl ?_|apply z09|apply z01|apply z04|refine z0m (fun _=>?_) (fun _=>?_)| refine z0p ?_)))
  all_goals try (exfalso;omega)
  all_goals first
   | (have he:up c t=[]:=by first|exact hbad (by omega)|exact hfull (by assumption)
      obtain⟨e1,e2⟩:=hfin he
      refine z11 6 rfl ?_
      refine z11 7 rfl ?_
      exact z0a Tryz.func72 _ z20 ⟨by rw[e1,e2];rfl,rfl⟩)
   | (obtain⟨e1,e2,e3⟩:=hgo (by omega) (by omega)
      refine z4p 54 6 rfl rfl ?_
      refine z4p 50 7 rfl rfl ?_
      refine z03 (ih (k+1,x) e1 (by simp only;omega)) ?_ ?_
      all_goals first|(rw[e2,e3];rfl)|rfl)
theorem zff (l:List Int) (x:Int) (hl:l.length≤1000000):z0j Tryz.prog 110 [.d (ints l),I .i64 x] (I .i64 (z41 (fun y=>decide (x=y)) l 0)):=by
 refine z10 fun H=>?_
 refine z0e Tryz.func110 (by kernel_rfl) rfl (by simp) ?_
 dsimp only[Tryz.f110]
 repeat' (first|(apply z05;(first|refine z0r ?_| (apply z12;(refine z02 (z0u rfl) rfl rfl ?_))))|(apply z06;(first|refine z0q ?_|apply z0b))|(apply z07;(first|apply z08|apply z00|apply z01)))
 refine z0k ?_
 refine z03 (z1x (fun q:Nat=>⟨19,[(0,.d (ints l)),(1,I .i64 x),(7,I .i64 l.length),(8,I .i64 (q:Nat))],[],H⟩) (fun q=>q≤l.length∧z41 (fun y=>decide (x=y)) (l.drop q) q=z41 (fun y=>decide (x=y)) l 0) (fun q=>l.length-q) ?_ 0 ⟨zAc _,rfl⟩) rfl rfl
 intro k ⟨hk,hi⟩ ih
 by_cases hlt:k<l.length
 · obtain⟨y,hy⟩:∃ x,l[k]? =some x:=⟨_,zA0 hlt⟩
   rw[z3n hy,z41] at hi
   repeat' (first|(apply z05;(first|refine z0r ?_| (apply z0c;(refine z02 z2a rfl rfl ?_))|(apply z0o;(refine z02 (z1p rfl (idx hy)) rfl rfl ?_))|(apply z15;(refine z02 (z1a z1y) rfl rfl ?_))))|(apply z06;(first|refine z0q ?_|apply z0b))|(apply z07;(first|apply z08|apply z00|apply z09|apply z01|apply z04|refine z0m (fun _=>?_) (fun _=>?_)| refine z0p ?_)))
   all_goals exact zD16
 · exact zD11
theorem zay (l:List Int) (x:Int) (hl:l.length≤1000000):z0j Tryz.prog 84 [.d (ints l),I .i64 x] (B (l.any fun y=>decide (x=y))):=by
 refine z10 fun H=>?_
 refine z0e Tryz.func84 (by kernel_rfl) rfl (by simp) ?_
 dsimp only[Tryz.f84]
 repeat' (first|(apply z05;(first|refine z0r ?_| (apply z0w;(refine z3e (zff l x hl) ?_))))|(apply z06;(first|refine z0q ?_|apply z0b))|(apply z07;(first|apply z08|apply z00)))
 all_goals exact z0a Tryz.func84 _ z1m ⟨by rw[← z6v _ l 0],rfl⟩
theorem zfy (a b:List Str) (ha:a.length≤1000000) (hb:b.length≤1000000):z0j Tryz.prog 128 [.d (strs a),.d (strs b)] (B (decide (a=b))):=by
 refine z10 fun H=>?_
 refine z0e Tryz.func128 (by kernel_rfl) rfl (by simp) ?_
 dsimp only[Tryz.f128]
 by_cases hlen:a.length=b.length
 · repeat' (first|(apply z05;(first|refine z0r ?_| (apply z12;(refine z02 (z0u rfl) rfl rfl ?_))))|(apply z06;(first|refine z0q ?_|apply z0b))|(apply z07;(first|apply z08|apply z00|apply z09|apply z01|refine z3r rfl (fun _=>?_) (fun _=>?_))))
   · exfalso;omega
   refine z0k ?_
   refine z03 (z1x (fun q:Nat=>⟨26,[(0,.d (strs a)),(1,.d (strs b)),(12,I .i64 a.length),(13,I .i64 (q:Nat))],[],H⟩) (fun q=>q≤a.length∧∀ j<q,a[j]? =b[j]?) (fun q=>a.length-q) ?_ 0 ⟨zAc _,by simp⟩) rfl rfl
   intro k ⟨hk,hi⟩ ih
   by_cases hlt:k<a.length
   · obtain⟨x,hx⟩:∃ x,a[k]? =some x:=⟨_,zA0 hlt⟩
     obtain⟨y,hy⟩:∃ x,b[k]? =some x:=⟨_,zA0 (by omega)⟩
     repeat' (first|(apply z05;(first|refine z0r ?_| (apply z15;(refine z02 (z1a z1y) rfl rfl ?_))))|(apply z06;(first|refine z0q ?_|apply z0b))|(apply z07;(first|apply z08|apply z00|apply z09|apply z01|apply z2w|apply z04|refine z0m (fun _=>?_) (fun _=>?_)| refine z3r rfl (fun _=>?_) (fun _=>?_)|refine z0p ?_))|(apply z2t;(first|(apply z1e;refine z2k mix ?_)|refine z34 ?_| (apply z0z;(refine z0y z2a rfl rfl ?_))|(apply z1l;(first|refine z0y (z1p rfl (idx hx)) rfl rfl ?_| refine z0y (z1p rfl (idx hy)) rfl rfl ?_)))))
     all_goals try (exfalso;omega)
     all_goals first
      | (refine z0a Tryz.func128 _ z1m ⟨?_,rfl⟩
         rw[zAk]
         intro e;subst e;rw[hx] at hy;simp_all;done)
      | (refine z03 (ih (k+1) ⟨by omega,fun j hj=>?_⟩ (by omega)) rfl rfl
         by_cases e:j=k
         · subst e;rw[hx,hy];simp_all
         · exact hi j (by omega))
   · repeat' (first|(apply z05;(refine z0r ?_))|(apply z06;(first|refine z0q ?_|apply z0b))|(apply z07;(first|apply z08|apply z00|apply z09|apply z01|apply z2w|refine z0m (fun _=>?_) (fun _=>?_)| refine z0p ?_))|(apply z2t;(refine z34 ?_)))
     all_goals try (exfalso;omega)
     all_goals
      refine z0a Tryz.func128 _ z1m ⟨?_,rfl⟩
      rw[zAf]
      exact zi1 hlen (fun j hj=>hi j (by omega))
 · repeat' (first|(apply z05;(first|refine z0r ?_| (apply z12;(refine z02 (z0u rfl) rfl rfl ?_))))|(apply z06;(first|refine z0q ?_|apply z0b))|(apply z07;(first|apply z08|apply z00|apply z09|apply z01|refine z3r rfl (fun _=>?_) (fun _=>?_))))
   · refine z0a Tryz.func128 _ z1m ⟨?_,rfl⟩
     rw[zAk]
     intro e;subst e;exact hlen rfl
   · exfalso;omega
abbrev scD (c:z0i) (g:Lf) (a b:Int):PV:=.d (.agg (c.cs++g.cs++[z3b a,z3b b]))
theorem zi0 {c:z0i} (hw:Wf c) (g:Lf) {a:Int} (b:Int) (ha:token c a=true):z0j Tryz.prog 100 [scD c g a b] (B (decide ((up c a)[0]? =some b))):=by
 have hul:=z9l c a
 have htok:=hw.tok
 refine z10 fun H=>?_
 refine z0e Tryz.func100 (by kernel_rfl) rfl (by simp) ?_
 dsimp only[Tryz.f100]
 cases hu:up c a with
 | nil =>
  have hs:=zcx hw ha
  rw[hu] at hs
  repeat' (first|(apply z05;(first|refine z0r ?_| (apply z0c;(first|refine z02 z1k rfl rfl ?_| refine z02 z3v rfl rfl ?_))|(apply z0d;(refine z02 z1h rfl rfl ?_))|(apply z0w;(refine z3e hs ?_))|(apply z1j;(refine z0g z31 ?_))))|(apply z06;(first|refine z0q ?_|apply z0b))|(apply z07;(first|apply z08|apply z00|apply z2w))|(apply z2t;(first|(apply z1e;refine z2k mix ?_)|refine z6g rfl rfl (by decide) ?_|refine z34 ?_| (apply z2r;(refine z0y (z0u rfl) rfl rfl ?_)))))
  all_goals try (exfalso;simp_all;done)
  all_goals exact z0a Tryz.func100 _ z1m ⟨rfl,rfl⟩
 | cons x r =>
  have hs:=zcx hw ha
  rw[hu] at hs hul
  have h0:(x::r)[(0:Int).toNat]? =some x:=rfl
  repeat' (first|(apply z05;(first|refine z0r ?_| (apply z0c;(first|refine z02 z1k rfl rfl ?_| refine z02 z3v rfl rfl ?_))|(apply z0d;(refine z02 z1h rfl rfl ?_))|(apply z0w;(refine z3e hs ?_))|(apply z1j;(refine z0g z31 ?_))))|(apply z06;(first|refine z0q ?_|apply z0b))|(apply z07;(first|apply z08|apply z00|apply z2w))|(apply z2t;(first|(apply z1e;refine z2k mix ?_)|refine z6g rfl rfl (by decide) ?_|refine z34 ?_| (apply z0z;(first|refine z0y z1k rfl rfl ?_| refine z0y z2a rfl rfl ?_))|(apply z0v;(refine z0y z1h rfl rfl ?_))|(apply z1l;(refine z0y (z1p rfl (z5i h0)) rfl rfl ?_))|(apply z2r;(refine z0y (z0u rfl) rfl rfl ?_))|(refine z4g rfl rfl (fun hg=>?_) (fun hg=>?_) <;> simp only[hg] <;> (try simp only[zA3,zA5,zA6,Bool.not_eq_false'] at hg)))))
  all_goals try (exfalso;simp_all;done)
  all_goals exact z0a Tryz.func100 _ z1m ⟨by simp,rfl⟩
theorem zjo {c:z0i} (hw:Wf c) (g:Lf) {a:Int} (b:Int) (ha:token c a=true):z0j Tryz.prog 101 [scD c g a b] (B ((up c a).any fun y=>decide (b=y))):=by
 have hul:=z9l c a
 have htok:=hw.tok
 refine z10 fun H=>?_
 refine z0e Tryz.func101 (by kernel_rfl) rfl (by simp) ?_
 dsimp only[Tryz.f101]
 repeat' (first|(apply z05;(first|refine z0r ?_| (apply z0c;(first|refine z02 z1k rfl rfl ?_| refine z02 z3v rfl rfl ?_))|(apply z0d;(refine z02 z1h rfl rfl ?_))|(apply z0w;(first|refine z3e (zcx hw ha) ?_| refine zl1 (zay (up c a) b (by omega)) rfl (by decide) ?_))|(apply z1j;(refine z0g z31 ?_))))|(apply z06;(first|refine z0q ?_|apply z0b))|(apply z07;(first|apply z08|apply z00)))
 all_goals exact z0a Tryz.func101 _ z1m ⟨rfl,rfl⟩
theorem zfi {kk sl:Nat} (l:List Int) (x:Int) (hl:l.length≤1000000):z2f Tryz.prog 110 [.ref (kk,sl),I .i64 x] [((kk,sl),.row 3 1 (l.map fun x=>[z3b x]))] [] (I .i64 (z41 (fun y=>decide (x=y)) l 0)):=by
 refine z5e fun H hH=>?_
 have hH0:=hH ((kk,sl),.row 3 1 (l.map fun x=>[z3b x])) (by simp)
 refine z0e Tryz.func110 (by kernel_rfl) rfl (by simp) ?_
 dsimp only[Tryz.f110]
 repeat' (first|(apply z05;(first|refine z0r ?_| (apply z12;(refine z02 (z2n rfl) rfl (bk1 hH0) ?_))))|(apply z06;(first|refine z0q ?_|apply z0b))|(apply z07;(first|apply z08|apply z00|apply z01)))
 refine z0k ?_
 refine z03 (z1x (fun q:Nat=>⟨19,[(0,.ref (kk+1,sl)),(1,I .i64 x),(7,I .i64 l.length),(8,I .i64 (q:Nat))],[],H⟩) (fun q=>q≤l.length∧z41 (fun y=>decide (x=y)) (l.drop q) q=z41 (fun y=>decide (x=y)) l 0) (fun q=>l.length-q) ?_ 0 ⟨zAc _,rfl⟩) rfl rfl
 intro k ⟨hk,hi⟩ ih
 by_cases hlt:k<l.length
 · obtain⟨y,hy⟩:∃ x,l[k]? =some x:=⟨_,zA0 hlt⟩
   rw[z3n hy,z41] at hi
   repeat' (first|(apply z05;(refine z0r ?_))|(apply z06;(first|refine z0q ?_|apply z0b))|(apply z07;(first|apply z08|apply z00|apply z09|apply z01|refine z0m (fun _=>?_) (fun _=>?_)| refine z0p ?_)))
   refine z05 ?_
   refine z02 (z1d (kk:=1) (e':=3) (ys:=l.map fun x=>[z3b x]) rfl (by omega) (by rw[zA4];omega) rfl) rfl (bk1 hH0) ?_
   repeat' (first|(apply z05;(first|refine z0r ?_| (apply z0c;(refine z02 (z1i hy rfl rfl rfl) rfl (bk1 hH0) ?_))|(apply z15;(refine z02 (z1a z1y) rfl rfl ?_))))|(apply z06;(first|refine z0q ?_|apply z0b))|(apply z07;(first|apply z08|apply z00|apply z09|apply z04|refine z0m (fun _=>?_) (fun _=>?_))))
   all_goals exact zD16
 · exact zD11
def zim (c:z0i) (g:Lf) (a b:Int):Bool :=
 decide (0≤z41 (fun y=>decide (b=y)) (way c a) 0)&&decide ((z5f c a (up c a).length).take (z41 (fun y=>decide (b=y)) (way c a) 0).toNat=g.args)
theorem zdu (c:z0i) (a:Int):(z5f c a (up c a).length).length=(up c a).length:=by simp[z5f,way]
theorem zhn {c:z0i} (hw:Wf c) (g:Lf) (hg:g.args.length≤1000000) {a:Int} (b:Int) (ha:token c a=true):z0j Tryz.prog 102 [scD c g a b] (B (zim c g a b)):=by
 have hul:=z9l c a
 have htok:=hw.tok
 have hrl:=zdu c a
 have hwl:(way c a).length=(up c a).length+1:=rfl
 have hr:=z82 (fun y=>decide (b=y)) (way c a) 0
 have hx:∀ k,z2f Tryz.prog 110 [.ref (0,k),I .i64 b] [((0,k),.row 3 1 ((way c a).map fun x=>[z3b x]))] [] (I .i64 (z41 (fun y=>decide (b=y)) (way c a) 0)):=fun k=>zfi (way c a) b (by omega)
 unfold zim
 generalize z41 (fun y=>decide (b=y)) (way c a) 0=n at hr hx ⊢
 have hq:=zfy ((z5f c a (up c a).length).take n.toNat) g.args (by rw[zAj];omega) hg
 refine z10 fun H=>?_
 refine z0e Tryz.func102 (by kernel_rfl) rfl (by simp) ?_
 dsimp only[Tryz.f102]
 repeat' (first|(apply z05;(first|refine z0r ?_| (apply z0c;(first|refine z02 z1k rfl rfl ?_| refine z02 z3v rfl rfl ?_))|(apply z0d;(refine z02 z1h rfl rfl ?_))|(apply z0w;(refine z3e (zcx hw ha) ?_))|(apply z1j;(refine z0g z31 ?_))))|(apply z06;(first|refine z0q ?_|apply z0b))|(apply z07;(first|apply z08|apply z00|apply z2w))|(apply z2t;(first|(apply z1e;refine z2k mix ?_)|refine z6g rfl rfl (by decide) ?_|refine z34 ?_| (apply z0z;(refine z0y z1k rfl rfl ?_))|(apply z0v;(refine z0y z1h rfl rfl ?_))|(apply z71;(refine z0y (z45 rfl (by omega) (by omega) (fun _=>rfl)) rfl rfl ?_))|(apply z2r;(refine z6i (q:=[a]) (r:=up c a) (by first|exact rfl|exact⟨_,rfl,rfl,rfl⟩) rfl rfl rfl rfl rfl (fun _=>rfl) rfl rfl (by decide) (by simp;omega) ?_))|(apply z25;(first|refine z3w hq ?_| refine zkw (first:=[]) (cap:=[]) (ps:=[.ref (0,18),I .i64 b]) (bs:=[((0,18),.row 3 1 ((way c a).map fun x=>[z3b x]))]) (hx 18) (by first|exact rfl|exact⟨_,rfl,rfl,rfl⟩) rfl rfl (bk1 rfl) (by decide) ?_))|(apply z5d;(refine zgq (ys:=[a].map fun x=>[z3b x]) (by first|exact rfl|exact⟨_,rfl,rfl,rfl⟩) rfl rfl rfl rfl rfl rfl rfl rfl rfl (by decide) ?_))|(refine z4g rfl rfl (fun hg=>?_) (fun hg=>?_) <;> simp only[hg] <;> (try simp only[zA3,zA5,zA6,Bool.not_eq_false'] at hg)))))
 all_goals exact z0a Tryz.func102 _ z1m ⟨by first|rfl|(rw[zAf (p:=0≤n) (by assumption)];rfl)|(rw[zAk (p:=0≤n) (by assumption)];rfl),rfl⟩
abbrev scL (c:z0i) (g:Lf) (a b:Int):List D:=c.cs++g.cs++[z3b a,z3b b]
def ze9 (g:Lf) (a b:Int) (n:Node):Bool:=decide (n.label=g.name)&&decide (n.b≤min a b)&&decide (max a b<n.e)
theorem zih (c:z0i) (g:Lf) (a b:Int) (n:Node) (k sl:Nat):z2f Tryz.prog 130 [.d (.agg n.cs),.ptr (k,sl) 0] [((k,sl),.box ((scL c g a b).map .d))] [] (B (ze9 g a b n)):=by
 refine z5e fun H hH=>?_
 have hH0:=hH ((k,sl),.box ((scL c g a b).map .d)) (by simp)
 refine z0e Tryz.func130 (by kernel_rfl) rfl (by simp) ?_
 dsimp only[Tryz.f130]
 repeat' (first|(apply z05;(first|refine z0r ?_| (apply z0c;(first|refine z02 (z1k (b:=.box ((scL c g a b).map .d))) rfl (bk1 hH0) ?_| refine z02 z1k rfl rfl ?_))|(apply z0d;(refine z02 z1h rfl rfl ?_))|(apply z12;(first|refine z02 zlk rfl rfl ?_| refine z02 zlj rfl rfl ?_))|(apply z1j;(refine z0g z31 ?_))))|(apply z06;(first|refine z0q ?_|apply z0b|refine z1z ?_| refine z14 rfl rfl (fun _=>?_) (fun _=>?_)))|(apply z07;(first|apply z08|apply z00)))
 all_goals exact z0a Tryz.func130 _ z1m ⟨by unfold ze9;first|(rw[zAf (p:=n.label=g.name) (by assumption),zAf (p:=n.b≤min a b) (by assumption)];rfl)|(rw[zAf (p:=n.label=g.name) (by assumption),zAk (p:=n.b≤min a b) (by assumption)];rfl)|(rw[zAk (p:=n.label=g.name) (by assumption)];rfl),rfl⟩
theorem zhu (c:z0i) (g:Lf) (a b:Int) (hc:c.nodes.length≤1000000):z0j Tryz.prog 103 [scD c g a b] (B (c.nodes.any (ze9 g a b))):=by
 refine z10 fun H=>?_
 refine z0e Tryz.func103 (by kernel_rfl) rfl (by simp) ?_
 dsimp only[Tryz.f103]
 repeat' (first|(apply z05;(first|refine z0r ?_| (apply z0c;(refine z02 z1k rfl rfl ?_))|(apply z0d;(refine z02 z1h rfl rfl ?_))|(apply z0w;(refine z9o (zfn (kk:=0) (ze9 g a b) c.nodes hc (fun k x _=>zih c g a b x k 1)) rfl rfl (by decide) ?_))|(apply z1j;(refine z0g z31 ?_))|refine z5b rfl rfl (by decide) ?_))|(apply z06;(first|refine z0q ?_|apply z0b))|(apply z07;(first|apply z08|apply z00)))
 all_goals exact z0a Tryz.func103 _ z1m ⟨rfl,rfl⟩
def z4k:List (List D):=[[.lit .nilFunc],[.lit .nilFunc],[.lit .nilFunc],[fnD 97],[fnD 98],[fnD 99],[fnD 100],[fnD 101],[fnD 102],[fnD 103]]
def zei (c:z0i) (g:Lf) (a b:Int):Bool :=
 if g.op=7 then (up c a).any fun y=>decide (b=y) else if g.op=8 then zim c g a b else if g.op=9 then c.nodes.any (ze9 g a b) else decide ((up c a)[0]? =some b)
theorem zdw {c:z0i} (hw:Wf c) (g:Lf) (hg:g.args.length≤1000000) {a:Int} (b:Int) (ha:token c a=true) (hc:c.nodes.length≤1000000) (ho:g.op=6∨g.op=7∨g.op=8∨g.op=9):z0j Tryz.prog 73 [scD c g a b] (B (zei c g a b)):=by
 have h6:g.op=6→z0j Tryz.prog 100 [scD c g a b] (B (zei c g a b)):=fun e=>by rw[zei,e];exact zi0 hw g b ha
 have h7:g.op=7→z0j Tryz.prog 101 [scD c g a b] (B (zei c g a b)):=fun e=>by rw[zei,e];exact zjo hw g b ha
 have h8:g.op=8→z0j Tryz.prog 102 [scD c g a b] (B (zei c g a b)):=fun e=>by rw[zei,e];exact zhn hw g hg b ha
 have h9:g.op=9→z0j Tryz.prog 103 [scD c g a b] (B (zei c g a b)):=fun e=>by rw[zei,e];exact zhu c g a b hc
 refine z10 fun H=>?_
 refine z0e Tryz.func73 (by kernel_rfl) rfl (by simp) ?_
 dsimp only[Tryz.f73]
 rcases ho with h|h|h|h
 · have hv:z4k[g.op.toNat]? =some [fnD 100]:=by rw[h];rfl
   repeat' (first|(apply z05;(first|refine z8n (ys:=z4k) rfl rfl rfl rfl rfl rfl rfl rfl (by decide) ?_|refine z0r ?_| (apply z1j;(refine z0g z31 ?_))))|(apply z06;(first|refine z0q ?_|apply z0b))|(apply z07;(first|apply z08|apply z00|apply z2w))|(apply z2t;(first|(apply z1e;refine z2k mix ?_)|refine z34 ?_| (apply z0z;(first|refine z0y z2u rfl rfl ?_| refine z0y z1k rfl rfl ?_| refine z0y z2a rfl rfl ?_))|(apply z0v;(refine z0y z1h rfl rfl ?_))|(apply z1l;(refine z0y (z1p rfl hv) rfl rfl ?_))|(apply z25;(refine zcd (by first|exact rfl|exact⟨_,rfl,rfl,rfl⟩) rfl (h6 h) rfl (by decide) ?_)))))
   all_goals exact z0a Tryz.func73 _ z1m ⟨rfl,rfl⟩
 · have hv:z4k[g.op.toNat]? =some [fnD 101]:=by rw[h];rfl
   repeat' (first|(apply z05;(first|refine z8n (ys:=z4k) rfl rfl rfl rfl rfl rfl rfl rfl (by decide) ?_|refine z0r ?_| (apply z1j;(refine z0g z31 ?_))))|(apply z06;(first|refine z0q ?_|apply z0b))|(apply z07;(first|apply z08|apply z00|apply z2w))|(apply z2t;(first|(apply z1e;refine z2k mix ?_)|refine z34 ?_| (apply z0z;(first|refine z0y z2u rfl rfl ?_| refine z0y z1k rfl rfl ?_| refine z0y z2a rfl rfl ?_))|(apply z0v;(refine z0y z1h rfl rfl ?_))|(apply z1l;(refine z0y (z1p rfl hv) rfl rfl ?_))|(apply z25;(refine zcd (by first|exact rfl|exact⟨_,rfl,rfl,rfl⟩) rfl (h7 h) rfl (by decide) ?_)))))
   all_goals exact z0a Tryz.func73 _ z1m ⟨rfl,rfl⟩
 · have hv:z4k[g.op.toNat]? =some [fnD 102]:=by rw[h];rfl
   repeat' (first|(apply z05;(first|refine z8n (ys:=z4k) rfl rfl rfl rfl rfl rfl rfl rfl (by decide) ?_|refine z0r ?_| (apply z1j;(refine z0g z31 ?_))))|(apply z06;(first|refine z0q ?_|apply z0b))|(apply z07;(first|apply z08|apply z00|apply z2w))|(apply z2t;(first|(apply z1e;refine z2k mix ?_)|refine z34 ?_| (apply z0z;(first|refine z0y z2u rfl rfl ?_| refine z0y z1k rfl rfl ?_| refine z0y z2a rfl rfl ?_))|(apply z0v;(refine z0y z1h rfl rfl ?_))|(apply z1l;(refine z0y (z1p rfl hv) rfl rfl ?_))|(apply z25;(refine zcd (by first|exact rfl|exact⟨_,rfl,rfl,rfl⟩) rfl (h8 h) rfl (by decide) ?_)))))
   all_goals exact z0a Tryz.func73 _ z1m ⟨rfl,rfl⟩
 · have hv:z4k[g.op.toNat]? =some [fnD 103]:=by rw[h];rfl
   repeat' (first|(apply z05;(first|refine z8n (ys:=z4k) rfl rfl rfl rfl rfl rfl rfl rfl (by decide) ?_|refine z0r ?_| (apply z1j;(refine z0g z31 ?_))))|(apply z06;(first|refine z0q ?_|apply z0b))|(apply z07;(first|apply z08|apply z00|apply z2w))|(apply z2t;(first|(apply z1e;refine z2k mix ?_)|refine z34 ?_| (apply z0z;(first|refine z0y z2u rfl rfl ?_| refine z0y z1k rfl rfl ?_| refine z0y z2a rfl rfl ?_))|(apply z0v;(refine z0y z1h rfl rfl ?_))|(apply z1l;(refine z0y (z1p rfl hv) rfl rfl ?_))|(apply z25;(refine zcd (by first|exact rfl|exact⟨_,rfl,rfl,rfl⟩) rfl (h9 h) rfl (by decide) ?_)))))
   all_goals exact z0a Tryz.func73 _ z1m ⟨rfl,rfl⟩
def zb4 (c:z0i) (g:Lf) (i j:Int):Bool:=if g.op=10 then decide (g.mn≤((up c i).length:Int))&&decide (((up c i).length:Int)≤g.mx) else zei c g i j
end Go.Proofs.YtonhfccmeammbaaGreatDoor
namespace Go.Proofs.YtonhfccmeammbaaGreatDoor
open Go.Ab
set_option maxHeartbeats 20000000
section
variable {P:Program} {f:FuncId} {R:z2v} {k:List Item} {all:Array Oper} {l:List Oper} {n:Nat} {tm:List (Nat × PV)} {hp:Hp} {up:Hf} {d:Nat} {ty:TypeId} {pos:String} {aft:Array Edge} {gd:Option (Nat × Bool)}
theorem zld (a b:Nat) {q:Blk} (hb:Ab.look hp a=some q) (hab:(!(a == b)&&!q.says (0,b))=true) (h:Ops P f R all l k ⟨n,z80 a b tm,(b,q)::(a,.gone)::zax a b hp,up⟩):Ops P f R all l k ⟨n,tm,hp,up⟩ :=
 fun is his=>z4p a b hb hab (h is his)
theorem zl7 {args:List Operand} {ats:Array TypeId} {li:List Int} (hev:St.evs ⟨n,tm,hp,up⟩ args=some [.d (ints li)]) (hl:li.length≤9223372036854775807) (hd:d<n) (hfr:(z16 d hp&&z17 d tm)=true)
 (h:Ops Tryz.prog f R all l k ⟨n,(d,.ptr (0,d) 0)::tm,(d,z1w (li.take 120) 0)::hp,up⟩) :
 Op1 Tryz.prog f R all ⟨some d,.call ⟨.value (.func 9),args.toArray,ats⟩,ty,pos,aft,gd⟩ l k ⟨n,tm,hp,up⟩ :=
 zhx hev (zkk li hl _) hd hfr fun r H ⟨h1,h2⟩=>⟨_,h1,h2,rfl,rfl,h⟩
end
attribute [local irreducible] Run Ops Op1 z1r Val Tr z0j z2f NF Rel z3d z1q
def sX:Str:=⟨#[120]⟩
def sY:Str:=⟨#[121]⟩
end Go.Proofs.YtonhfccmeammbaaGreatDoor
namespace Go.Proofs.YtonhfccmeammbaaGreatDoor
open Go.Ab
set_option maxHeartbeats 20000000
attribute [local irreducible] Run Ops Op1 z1r Val Tr z0j z2f NF Rel
theorem zf4 {cf:FuncId} {sl kk:Nat} {blk:Blk} (p:Attr→Bool) (xs:List (Attr)) (hl:xs.length≤1000000) (hcl:∀ k x,x∈xs→z2f Tryz.prog cf [.d (.agg x.cs),.ptr (k,sl) 0] [((k,sl),blk)] [] (B (p x))) :
 z2f Tryz.prog 88 [.d (.slice (xs.map Attr.cs)),.fn (.func cf) [] [.ptr (kk,sl) 0]] [((kk,sl),blk)] [] (I .i64 (z41 p xs 0)):=by
 refine z5e fun H hH=>?_
 have hH0:=hH ((kk,sl),blk) (by simp)
 refine z0e Tryz.func88 (by kernel_rfl) rfl (by simp) ?_
 dsimp only[Tryz.f88]
 repeat' (first|(apply z05;(first|refine z0r ?_| (apply z12;(refine z02 (z0u rfl) rfl rfl ?_))))|(apply z06;(first|refine z0q ?_|apply z0b))|(apply z07;(first|apply z08|apply z00|apply z01)))
 refine z0k ?_
 refine z03 (z1x (fun q:Nat=>⟨19,[(0,.d (.slice (xs.map Attr.cs))),(1,.fn (.func cf) [] [.ptr (kk+1,sl) 0]),(7,I .i64 xs.length),(8,I .i64 (q:Nat))],[],H⟩) (fun q=>q≤xs.length∧z41 p (xs.drop q) q=z41 p xs 0) (fun q=>xs.length-q) ?_ 0 ⟨zAc _,rfl⟩) rfl rfl
 intro k ⟨hk,hi⟩ ih
 by_cases hlt:k<xs.length
 · obtain⟨x,hx⟩:∃ x,xs[k]? =some x:=⟨_,zA0 hlt⟩
   have hm:=zA2 hx
   rw[z3n hx,z41] at hi
   repeat' (first|(apply z05;(first|refine z0r ?_| (apply z0c;(refine z02 (z1t rfl rfl) rfl rfl ?_))|(apply z0o;(refine z02 (z1p rfl (idx hx)) rfl rfl ?_))|(apply z15;(refine z02 (z1a z1y) rfl rfl ?_))|(apply z0w;(refine zf9 (first:=[]) (cap:=[.ptr (kk+1,sl) 0]) (ps:=[.d (.agg x.cs)]) (bs:=[((kk+1,sl),blk)]) (hcl (kk+1) x hm) rfl rfl (bk1 hH0) (by decide) ?_))))|(apply z06;(first|refine z0q ?_|apply z0b))|(apply z07;(first|apply z08|apply z00|apply z09|apply z01|apply z04|refine z0m (fun _=>?_) (fun _=>?_)| refine z1u rfl (fun _=>?_) (fun _=>?_)|refine z0p ?_)))
   all_goals try (exfalso;omega)
   all_goals first
    | (refine z0a Tryz.func88 _ z1m ⟨?_,rfl⟩;rw[← hi,zAs (by assumption)])
    | exact z03 (ih (k+1) ⟨by omega,by rw[← hi,zAr (by simp_all)]⟩ (by omega)) rfl rfl
 · obtain rfl:k=xs.length:=by omega
   rw[List.drop_length,z41] at hi
   repeat' (first|(apply z05;(refine z0r ?_))|(apply z06;(first|refine z0q ?_|apply z0b))|(apply z07;(first|apply z08|apply z00|apply z09|apply z01|refine z0m (fun _=>?_) (fun _=>?_)| refine z0p ?_)))
   all_goals try (exfalso;omega)
   all_goals exact z0a Tryz.func88 _ z1m ⟨by rw[← hi],rfl⟩
theorem zh5 (a:Attr) (x:Str) (k sl:Nat):z2f Tryz.prog 89 [.d (.agg a.cs),.ptr (k,sl) 0] [((k,sl),.box [S x])] [] (B (decide (a.name=x))):=by
 refine z5e fun H hH=>?_
 have hH0:=hH ((k,sl),.box [S x]) (by simp)
 refine z0e Tryz.func89 (by kernel_rfl) rfl (by simp) ?_
 dsimp only[Tryz.f89]
 repeat' (first|(apply z05;(first|refine z0r ?_| (apply z0c;(first|refine z02 (z1k (b:=.box [S x])) rfl (bk1 hH0) ?_| refine z02 z1k rfl rfl ?_))|(apply z0d;(refine z02 z1h rfl rfl ?_))|(apply z1j;(refine z0g z31 ?_))))|(apply z06;(first|refine z0q ?_|apply z0b))|(apply z07;(first|apply z08|apply z00)))
 all_goals exact z0a Tryz.func89 _ z1m ⟨rfl,rfl⟩
def z4t (c:z0i) (x:Str):Int:=z41 (fun a:Attr=>decide (a.name=x)) c.attrs 0
theorem zaf (c:z0i) (x:Str) (hc:c.attrs.length≤1000000):z0j Tryz.prog 61 [.d (.slice (c.attrs.map Attr.cs)),S x] (I .i64 (z4t c x)):=by
 refine z10 fun H=>?_
 refine z0e Tryz.func61 (by kernel_rfl) rfl (by simp) ?_
 dsimp only[Tryz.f61]
 repeat' (first|(apply z05;(first|refine z0r ?_| (apply z0w;(refine z9o (zf4 (kk:=0) (fun a=>decide (a.name=x)) c.attrs hc (fun k y _=>zh5 y x k 3)) rfl rfl (by decide) ?_))|(apply z1j;(refine z0g (z7w rfl rfl rfl rfl rfl (by decide)) ?_))|refine z5b rfl rfl (by decide) ?_))|(apply z06;(first|refine z0q ?_|apply z0b))|(apply z07;(first|apply z08|apply z00)))
 all_goals exact z0a Tryz.func61 _ z1m ⟨rfl,rfl⟩
def z6r (c:z0i) (t a:Int):Str:=if t<0∨(c.tokens.length:Int)≤t then ⟨#[]⟩ else if a<0 then ⟨#[]⟩ else match c.tokens[t.toNat]? with
 | some vs=>(vs[a.toNat]?).getD ⟨#[]⟩
 | none=>⟨#[]⟩
theorem zem (c:z0i) (t a:Int):z0j Tryz.prog 96 [c.d,I .i64 t,I .i64 a] (S (z6r c t a)):=by
 refine z10 fun H=>?_
 refine z0e Tryz.func96 (by kernel_rfl) rfl (by simp) ?_
 dsimp only[Tryz.f96]
 by_cases ht:t<0∨(c.tokens.length:Int)≤t
 · have hv:z6r c t a=⟨#[]⟩:=by rw[z6r,zAs ht]
   all_goals exact zD10
 · obtain⟨vs,hvs⟩:∃ x,c.tokens[t.toNat]? =some x:=⟨_,zA0 (by omega)⟩
   by_cases ha:a<0
   · have hv:z6r c t a=⟨#[]⟩:=by rw[z6r,zAr ht,zAs ha]
     all_goals exact zD10
   · have hv:z6r c t a=(vs[a.toNat]?).getD ⟨#[]⟩:=by rw[z6r,zAr ht,zAr ha,hvs]
     cases hx:vs[a.toNat]? with
     | none =>
      rw[hx] at hv
      have:=List.getElem?_eq_none_iff.1 hx
      repeat' (first|(apply z05;(first|refine z0r ?_| (apply z0c;(first|refine z02 z1k rfl rfl ?_| refine z02 z2a rfl rfl ?_))|(apply z0d;(refine z02 z1h rfl rfl ?_))|(apply z0o;(refine z02 (z1p rfl (z5i hvs)) rfl rfl ?_))|(apply z12;(refine z02 (z0u rfl) rfl rfl ?_))|(apply z1j;(refine z0g z31 ?_))))|(apply z06;(first|refine z0q ?_|apply z0b|refine z1z ?_| refine z14 rfl rfl (fun _=>?_) (fun _=>?_)))|(apply z07;(first|apply z08|apply z00|refine z28 rfl ?_|apply z09|refine z0m (fun _=>?_) (fun _=>?_))))
      all_goals try (exfalso;omega)
      all_goals exact z0a Tryz.func96 _ z1m ⟨by rw[hv];rfl,rfl⟩
     | some x =>
      rw[hx] at hv
      have:=(zA1.1 hx).1
      repeat' (first|(apply z05;(first|refine z0r ?_| (apply z0c;(first|refine z02 z1k rfl rfl ?_| refine z02 z2a rfl rfl ?_))|(apply z0d;(refine z02 z1h rfl rfl ?_))|(apply z0o;(first|refine z02 (z1p rfl (z5i hvs)) rfl rfl ?_| refine z02 (z1p rfl (z5i hx)) rfl rfl ?_))|(apply z12;(refine z02 (z0u rfl) rfl rfl ?_))|(apply z1j;(refine z0g z31 ?_))))|(apply z06;(first|refine z0q ?_|apply z0b|refine z1z ?_| refine z14 rfl rfl (fun _=>?_) (fun _=>?_)))|(apply z07;(first|apply z08|apply z00|refine z28 rfl ?_|apply z09|refine z0m (fun _=>?_) (fun _=>?_))))
      all_goals try (exfalso;omega)
      all_goals exact z0a Tryz.func96 _ z1m ⟨by rw[hv];rfl,rfl⟩
theorem zbw (c:z0i) (t:Int) (x:Str) (hc:c.attrs.length≤1000000):z0j Tryz.prog 71 [c.d,I .i64 t,S x] (S (z6r c t (z4t c x))):=by
 refine z10 fun H=>?_
 refine z0e Tryz.func71 (by kernel_rfl) rfl (by simp) ?_
 dsimp only[Tryz.f71]
 repeat' (first|(apply z05;(first|refine z0r ?_| (apply z1j;(refine z0g z31 ?_))))|(apply z06;(first|refine z0q ?_|apply z0b))|(apply z07;(first|apply z08|apply z00|apply z2w))|(apply z2t;(first|(apply z1e;refine z2k mix ?_)|refine z34 ?_| (apply z0z;(first|refine z0y z2u rfl rfl ?_| refine z0y z1k rfl rfl ?_))|(apply z0v;(refine z0y z1h rfl rfl ?_))|(apply z25;(first|refine z3w (zaf c x hc) ?_| refine z3w (zem c t (z4t c x)) ?_)))))
 all_goals exact z0a Tryz.func71 _ z1m ⟨rfl,rfl⟩
structure Lp where
 op:Int
 a:Str
 b:Str
 name:Str
 arg:Str
 mn:Int
 mx:Int
def Lp.cs (g:Lp):List D:=[z3b g.op,z4o g.a,z4o g.b,z4o g.name,z4o g.arg,z4o ⟨#[]⟩,zew false,z3b g.mn,z3b g.mx,strs [],.slice []]
abbrev Lp.d (g:Lp):PV:=.d (.agg g.cs)
structure zh9 (g:Lp):Prop where
 op:g.op=3∨g.op=4
 h3:g.op=3→g.mn=0∧g.mx=0
 h4:g.op=4→g.name=⟨#[]⟩∧g.arg=⟨#[]⟩
theorem zia (g:Lp) (h:g.op≠0):z0j Tryz.prog 57 [g.d] (B false):=by
 exact zD6
theorem zcf (g:Lp):z0j Tryz.prog 58 [g.d,I .i64 0,I .i64 1] (.tup [I .i64 1,I .i64 1]):=by
 exact zD5
theorem ziq (g:Lp) (h:zh9 g):z0j Tryz.prog 60 [g.d] (B true):=by
 refine z10 fun H=>?_
 refine z0e Tryz.func60 (by kernel_rfl) rfl (by simp) ?_
 dsimp only[Tryz.f60]
 obtain⟨h1,h2,h3⟩:=h
 obtain⟨op,a,b,name,arg,mn,mx⟩:=g
 simp only at h1 h2 h3
 rcases h1 with rfl|rfl
 · obtain⟨rfl,rfl⟩:=h2 rfl
   all_goals exact zD3
 · obtain⟨rfl,rfl⟩:=h3 rfl
   all_goals exact zD3
theorem zeu (g:Lp) (h:zh9 g):z0j Tryz.prog 59 [g.d,.fn (.func 60) [] []] (B true):=by
 refine z10 fun H=>?_
 refine z0e Tryz.func59 (by kernel_rfl) rfl (by simp) ?_
 dsimp only[Tryz.f59]
 repeat' (first|(apply z05;(first|refine z0r ?_| (apply z0c;(first|refine z02 z2u rfl rfl ?_| refine z02 z1k rfl rfl ?_))|(apply z0d;(refine z02 z1h rfl rfl ?_))|(apply z0w;(first|refine zda (first:=[]) (cap:=[]) (ps:=[g.d]) (ziq g h) rfl rfl (by decide) ?_|refine z3e (z70 _) ?_))|(apply z1j;(refine z0g (z7w rfl rfl rfl rfl rfl (by decide)) ?_))|refine z5b rfl rfl (by decide) ?_))|(apply z06;(first|refine z0q ?_|apply z0b))|(apply z07;(first|apply z08|apply z00)))
 all_goals first
  | exact z0a Tryz.func59 _ z1m ⟨rfl,rfl⟩
  | (exfalso;simp_all;done)
theorem zb5 (g:Lp) (h:zh9 g):z0j Tryz.prog 29 [g.d] (B true):=by
 have hop:g.op≠0:=by have:=h.op;omega
 refine z10 fun H=>?_
 refine z0e Tryz.func29 (by kernel_rfl) rfl (by simp) ?_
 dsimp only[Tryz.f29]
 repeat' (first|(apply z05;(first|refine z0r ?_| (apply z0c;(refine z02 z2u rfl rfl ?_))|(apply z0w;(first|refine z3e (zia g hop) ?_| refine z3e (zcf g) ?_| refine z3e (zeu g h) ?_))|(apply z1j;(refine z0g z31 ?_))))|(apply z06;(first|refine z0q ?_|apply z0b))|(apply z07;(first|apply z08|apply z00|refine z1c rfl ?_|apply z09)))
 all_goals first
  | exact z0a Tryz.func29 _ z1m ⟨rfl,rfl⟩
  | (exfalso;simp_all;done)
def z4j (c:z0i) (g:Lp):Bool:=if g.op=3 then decide (0≤z4t c g.name)&&decide (0≤z4t c g.arg) else true
theorem zga (c:z0i) (g:Lp) (h:zh9 g) (hc:c.attrs.length≤1000000):z0j Tryz.prog 30 [c.d,g.d] (B (z4j c g)):=by
 have hop:=h.op
 have a1:=zaf c g.name hc
 have a2:=zaf c g.arg hc
 unfold z4j
 generalize z4t c g.name=x at a1 ⊢
 generalize z4t c g.arg=y at a2 ⊢
 refine z10 fun H=>?_
 refine z0e Tryz.func30 (by kernel_rfl) rfl (by simp) ?_
 dsimp only[Tryz.f30]
 repeat' (first|(apply z05;(first|refine z0r ?_| (apply z0c;(refine z02 z1k rfl rfl ?_))|(apply z0d;(refine z02 z1h rfl rfl ?_))|(apply z0w;(first|refine z3e (z70 _) ?_| refine z3e a1 ?_| refine z3e a2 ?_))|(apply z1j;(refine z0g z31 ?_))|refine z5b rfl rfl (by decide) ?_))|(apply z06;(first|refine z0q ?_|apply z0b|refine z1z ?_| refine z14 rfl rfl (fun _=>?_) (fun _=>?_)))|(apply z07;(first|apply z08|apply z00|refine z28 rfl ?_|apply z09|apply z01|apply z04|refine z0m (fun _=>?_) (fun _=>?_))))
 all_goals try (exfalso;omega)
 all_goals first
  | (refine z0a Tryz.func30 _ z1m ⟨?_,rfl⟩;rw[zAr (by assumption)];rfl)
  | (refine z0a Tryz.func30 _ z1m ⟨?_,rfl⟩;rw[zAs (by assumption)];first|(rw[zAk (p:=0≤x) (by omega)];rfl)|(rw[zAf (p:=0≤x) (by omega),zAk (p:=0≤y) (by omega)];rfl)|(rw[zAf (p:=0≤x) (by omega),zAf (p:=0≤y) (by omega)];rfl))
abbrev spD (c:z0i) (g:Lp) (a b:Int):PV:=.d (.agg (c.cs++g.cs++[z3b a,z3b b]))
def zgu (c:z0i) (g:Lp) (a b:Int):Bool:=if g.op=3 then decide (z6r c a (z4t c g.name)=z6r c b (z4t c g.arg)) else decide (g.mn≤b-a)&&decide (b-a≤g.mx)
theorem zht (c:z0i) (g:Lp) (a b:Int) (hc:c.attrs.length≤1000000):z0j Tryz.prog 97 [spD c g a b] (B (decide (z6r c a (z4t c g.name)=z6r c b (z4t c g.arg)))):=by
 refine z10 fun H=>?_
 refine z0e Tryz.func97 (by kernel_rfl) rfl (by simp) ?_
 dsimp only[Tryz.f97]
 repeat' (first|(apply z05;(first|refine z0r ?_| (apply z1j;(refine z0g z31 ?_))))|(apply z06;(first|refine z0q ?_|apply z0b))|(apply z07;(first|apply z08|apply z00|apply z2w))|(apply z2t;(first|(apply z1e;refine z2k mix ?_)|refine z34 ?_| (apply z0z;(first|refine z0y z1k rfl rfl ?_| refine z0y z3v rfl rfl ?_))|(apply z0v;(refine z0y z1h rfl rfl ?_))|(apply z25;(first|refine z3w (zbw c a g.name hc) ?_| refine z3w (zbw c b g.arg hc) ?_)))))
 all_goals exact z0a Tryz.func97 _ z1m ⟨rfl,rfl⟩
theorem zh2 (c:z0i) (g:Lp) (a b:Int) (ha:-1≤a∧a≤1000000) (hb:-1≤b∧b≤1000000):z0j Tryz.prog 98 [spD c g a b] (B (decide (g.mn≤b-a)&&decide (b-a≤g.mx))):=by
 refine z10 fun H=>?_
 refine z0e Tryz.func98 (by kernel_rfl) rfl (by simp) ?_
 dsimp only[Tryz.f98]
 repeat' (first|(apply z05;(first|refine z0r ?_| (apply z0c;(refine z02 z1k rfl rfl ?_))|(apply z0d;(refine z02 z1h rfl rfl ?_))|(apply z15;(refine z02 (z2l z1y) rfl rfl ?_))|(apply z1j;(refine z0g z31 ?_))))|(apply z06;(first|refine z0q ?_|apply z0b|refine z1z ?_| refine z14 rfl rfl (fun _=>?_) (fun _=>?_)))|(apply z07;(first|apply z08|apply z00)))
 all_goals exact z0a Tryz.func98 _ z1m ⟨by first|(rw[zAf (p:=g.mn≤b-a) (by assumption)];rfl)|(rw[zAk (p:=g.mn≤b-a) (by assumption)];rfl),rfl⟩
theorem zch (c:z0i) (g:Lp) (h:zh9 g) (a b:Int) (hc:c.attrs.length≤1000000) (ha:-1≤a∧a≤1000000) (hb:-1≤b∧b≤1000000):z0j Tryz.prog 73 [spD c g a b] (B (zgu c g a b)):=by
 have h3:g.op=3→z0j Tryz.prog 97 [spD c g a b] (B (zgu c g a b)):=fun e=>by rw[zgu,e];exact zht c g a b hc
 have h4:g.op=4→z0j Tryz.prog 98 [spD c g a b] (B (zgu c g a b)):=fun e=>by rw[zgu,e];exact zh2 c g a b ha hb
 refine z10 fun H=>?_
 refine z0e Tryz.func73 (by kernel_rfl) rfl (by simp) ?_
 dsimp only[Tryz.f73]
 rcases h.op with h|h
 · have hv:z4k[g.op.toNat]? =some [fnD 97]:=by rw[h];rfl
   repeat' (first|(apply z05;(first|refine z8n (ys:=z4k) rfl rfl rfl rfl rfl rfl rfl rfl (by decide) ?_|refine z0r ?_| (apply z1j;(refine z0g z31 ?_))))|(apply z06;(first|refine z0q ?_|apply z0b))|(apply z07;(first|apply z08|apply z00|apply z2w))|(apply z2t;(first|(apply z1e;refine z2k mix ?_)|refine z34 ?_| (apply z0z;(first|refine z0y z2u rfl rfl ?_| refine z0y z1k rfl rfl ?_| refine z0y z2a rfl rfl ?_))|(apply z0v;(refine z0y z1h rfl rfl ?_))|(apply z1l;(refine z0y (z1p rfl hv) rfl rfl ?_))|(apply z25;(refine zcd (by first|exact rfl|exact⟨_,rfl,rfl,rfl⟩) rfl (h3 h) rfl (by decide) ?_)))))
   all_goals exact z0a Tryz.func73 _ z1m ⟨rfl,rfl⟩
 · have hv:z4k[g.op.toNat]? =some [fnD 98]:=by rw[h];rfl
   repeat' (first|(apply z05;(first|refine z8n (ys:=z4k) rfl rfl rfl rfl rfl rfl rfl rfl (by decide) ?_|refine z0r ?_| (apply z1j;(refine z0g z31 ?_))))|(apply z06;(first|refine z0q ?_|apply z0b))|(apply z07;(first|apply z08|apply z00|apply z2w))|(apply z2t;(first|(apply z1e;refine z2k mix ?_)|refine z34 ?_| (apply z0z;(first|refine z0y z2u rfl rfl ?_| refine z0y z1k rfl rfl ?_| refine z0y z2a rfl rfl ?_))|(apply z0v;(refine z0y z1h rfl rfl ?_))|(apply z1l;(refine z0y (z1p rfl hv) rfl rfl ?_))|(apply z25;(refine zcd (by first|exact rfl|exact⟨_,rfl,rfl,rfl⟩) rfl (h4 h) rfl (by decide) ?_)))))
   all_goals exact z0a Tryz.func73 _ z1m ⟨rfl,rfl⟩
def z7f (c:z0i) (g:Lp) (ta tb:Int):Bool:=decide (0≤ta)&&decide (0≤tb)&&zgu c g ta tb
theorem zaw (c:z0i) (g:Lp) (h:zh9 g) (b e:Int) (ls:List Int) (ta tb:Int) (hx:z0j Tryz.prog 69 [.d (strs z30),z7v b e ls,S g.a] (I .i64 ta)) (hy:z0j Tryz.prog 69 [.d (strs z30),z7v b e ls,S g.b] (I .i64 tb))
 (hc:c.attrs.length≤1000000) (ha:-1≤ta∧ta≤1000000) (hb:-1≤tb∧tb≤1000000):z0j Tryz.prog 32 [c.d,g.d,.d (strs z30),z7v b e ls] (B (z7f c g ta tb)):=by
 have hop:=h.op
 have hrel:=zch c g h ta tb hc ha hb
 refine z10 fun H=>?_
 refine z0e Tryz.func32 (by kernel_rfl) rfl (by simp) ?_
 dsimp only[Tryz.f32]
 repeat' (first|(apply z05;(first|refine z0r ?_| (apply z0c;(first|refine z02 z2u rfl rfl ?_| refine z02 z1k rfl rfl ?_))|(apply z0d;(refine z02 z1h rfl rfl ?_))|(apply z0w;(first|refine z3e hx ?_| refine z3e hy ?_| refine z3e hrel ?_))|(apply z0n;(refine z26 ?_))|(apply z18;(refine z0g z2g ?_))|(apply z1j;(refine z0g (z7w rfl rfl rfl rfl rfl (by decide)) ?_))|(apply z21;(refine z43 ?_))|refine z5b rfl rfl (by decide) ?_))|(apply z06;(first|refine z0q ?_|apply z0b|refine z1z ?_| refine z14 rfl rfl (fun _=>?_) (fun _=>?_)))|(apply z07;(first|apply z08|apply z00|apply z09|apply z01|apply z2w|apply z04|refine z0m (fun _=>?_) (fun _=>?_)))|(apply z2t;(first|refine z34 ?_| (apply z0z;(first|refine z0y z2u rfl rfl ?_| refine z0y z1k rfl rfl ?_))|(apply z0v;(refine z0y z1h rfl rfl ?_)))))
 all_goals try (exfalso;omega)
 all_goals
  refine z0a Tryz.func32 _ z1m ⟨?_,rfl⟩
  rw[z7f]
  first
   | (rw[zAk (p:=0≤ta) (by omega)];rfl)
   | (rw[zAf (p:=0≤ta) (by omega),zAf (p:=0≤tb) (by assumption)];rfl)
   | (rw[zAf (p:=0≤ta) (by omega),zAk (p:=0≤tb) (by assumption)];rfl)
theorem z6w (c:z0i) (g:Lp) (h:zh9 g) (b e:Int) (ls:List Int) (ta tb:Int) (hx:z0j Tryz.prog 69 [.d (strs z30),z7v b e ls,S g.a] (I .i64 ta)) (hy:z0j Tryz.prog 69 [.d (strs z30),z7v b e ls,S g.b] (I .i64 tb))
 (hc:c.attrs.length≤1000000) (ht:c.tokens.length≤1000000) (hl:ls.length=2) (hin:∀ t∈ls,-1≤t∧t<c.tokens.length) (ha:-1≤ta∧ta≤1000000) (hb:-1≤tb∧tb≤1000000):z0j Tryz.prog 14 [c.d,g.d,.d (strs z30),z7v b e ls] (B (z4j c g&&z7f c g ta tb)):=by
 have hf:=zgx c z30 b e ls ht (by omega) (by decide) hl
 have hf':z0j Tryz.prog 31 [c.d,.d (strs z30),z7v b e ls] (B true):=by
  exact zD17
 have hk:=zga c g h hc
 generalize z4j c g=kb at hk ⊢
 refine z10 fun H=>?_
 refine z0e Tryz.func14 (by kernel_rfl) rfl (by simp) ?_
 dsimp only[Tryz.f14]
 cases kb
 · repeat' (first|(apply z05;(first|refine z0r ?_| (apply z0c;(refine z02 z2u rfl rfl ?_))|(apply z0w;(first|refine z3e (zb5 g h) ?_| refine z3e hk ?_))|(apply z1j;(refine z0g (z7w rfl rfl rfl rfl rfl (by decide)) ?_))))|(apply z06;(first|refine z0q ?_|apply z0b|refine z1z ?_))|(apply z07;(first|apply z08|apply z00)))
   all_goals exact zD21
 · repeat' (first|(apply z05;(first|refine z0r ?_| (apply z0c;(refine z02 z2u rfl rfl ?_))|(apply z0w;(first|refine z3e (zb5 g h) ?_| refine z3e hk ?_| refine z3e hf' ?_| refine z3e (zaw c g h b e ls ta tb hx hy hc ha hb) ?_))|(apply z1j;(refine z0g (z7w rfl rfl rfl rfl rfl (by decide)) ?_))))|(apply z06;(first|refine z0q ?_|apply z0b))|(apply z07;(first|apply z08|apply z00)))
   all_goals exact zD21
end Go.Proofs.YtonhfccmeammbaaGreatDoor
