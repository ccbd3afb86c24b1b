/- A part of the proof: T51 to T60. -/
import Derived.Test.YtonhfccmeammbaaGreatDoorUTG
import Derived.Test.YtonhfccmeammbaaGreatDoorUTC
import Derived.Test.YtonhfccmeammbaaGreatDoorUc
set_option linter.all false
namespace Go.Proofs.YtonhfccmeammbaaGreatDoor
open Go.Ab
set_option maxHeartbeats 20000000
attribute [local irreducible] Run Ops Op1 z1x Val Tr z0m z1r NF Rel
def z5a {α:Type} (p:α→Bool):List α→Nat→Int
 | [],_=> -1
 | x::r,k=>if p x then (k:Int) else z5a p r (k+1)
theorem z81 {α:Type} (p:α→Bool):∀ (l:List α) (k:Nat),decide (0≤z5a p l k)=l.any p
 | [],k=>rfl
 | x::r,k=>by
  have ih:=z81 p r (k+1)
  by_cases h:p x=true
  · simp[z5a,h]
  · simp only[Bool.not_eq_true] at h
    simp only[List.any_cons,h,Bool.false_or,← ih]
    simp[z5a,h]
theorem zdj {α:Type} (p:α→Bool):∀ (l:List α) (k:Nat),z5a p l k=-1∨((k:Int)≤z5a p l k∧z5a p l k<k+l.length)
 | [],k=>.inl rfl
 | x::r,k=>by
  simp only[z5a,zAk]
  by_cases h:p x=true
  · rw[zAy h];right;omega
  · rw[zAx h]
    rcases zdj p r (k+1) with e|e
    · exact .inl e
    · right;omega
theorem z4h {α:Type} {l:List α} {k:Nat} {x:α} (h:l[k]? =some x):l.drop k=x::l.drop (k+1):=by
 have hk:=(zA1.1 h)
 rw[List.drop_eq_getElem_cons hk.1,hk.2]
theorem zsa {cf:FuncId} {sl kk:Nat} {blk:Blk} (p:Int→Bool) (xs:List (Int)) (hl:xs.length≤1000000) (hcl:∀ k x,x∈xs→z1r Tryz.prog cf [.d (z3c x),.ptr (k,sl) 0] [((k,sl),blk)] [] (B (p x))) :
 z1r Tryz.prog 92 [.d (ints xs),.fn (.func cf) [] [.ptr (kk,sl) 0]] [((kk,sl),blk)] [] (I .i64 (z5a p xs 0)):=by
 refine z2h fun H hH=>?_
 have hH0:=hH ((kk,sl),blk) (by simp)
 refine z0g Tryz.func92 (by kernel_rfl) rfl (by simp) ?_
 dsimp only[Tryz.f92]
 repeat' (first|(apply z04;(first|refine z0l ?_| (apply z0x;(refine z02 (z0y rfl) rfl rfl ?_))))|(apply z05;(first|refine z0k ?_|apply z09))|(apply z06;(first|apply z07|apply z00|apply z01)))
 refine z0t ?_
 refine z0e (z1v (fun q:Nat=>⟨19,[(0,.d (ints xs)),(1,.fn (.func cf) [] [.ptr (kk+1,sl) 0]),(7,I .i64 xs.length),(8,I .i64 (q:Nat))],[],H⟩) (fun q=>q≤xs.length∧z5a p (xs.drop q) q=z5a p xs 0) (fun q=>xs.length-q) ?_ 0 ⟨zAf _,rfl⟩) rfl rfl
 intro k ⟨hk,hi⟩ ih
 by_cases hlt:k<xs.length
 · obtain⟨x,hx⟩:∃ x,xs[k]? =some x:=⟨_,zA0 hlt⟩
   have hm:=zA2 hx
   rw[z4h hx,z5a] at hi
   repeat' (first|(apply z04;(first|refine z0l ?_| (apply z0a;(refine z02 z2p rfl rfl ?_))|(apply z0n;(refine z02 (z1o rfl (idx hx)) rfl rfl ?_))|(apply z0z;(refine z02 (z14 z1p) rfl rfl ?_))|(apply z0j;(refine zhm (first:=[]) (cap:=[.ptr (kk+1,sl) 0]) (ps:=[.d (z3c x)]) (bs:=[((kk+1,sl),blk)]) (hcl (kk+1) x hm) rfl rfl (bk1 hH0) (by decide) ?_))))|(apply z05;(first|refine z0k ?_|apply z09))|(apply z06;(first|apply z07|apply z00|apply z08|apply z01|apply z03|refine z0h (fun _=>?_) (fun _=>?_)| refine z2i rfl (fun _=>?_) (fun _=>?_)|refine z0o ?_)))
   all_goals try (exfalso;omega)
   all_goals first
    | (refine z0c Tryz.func92 _ z1j ⟨?_,rfl⟩;rw[← hi,zAy (by assumption)])
    | exact z0e (ih (k+1) ⟨by omega,by rw[← hi,zAx (by simp_all)]⟩ (by omega)) rfl rfl
 · obtain rfl:k=xs.length:=by omega
   rw[zAr,z5a] at hi
   repeat' (first|(apply z04;(refine z0l ?_))|(apply z05;(first|refine z0k ?_|apply z09))|(apply z06;(first|apply z07|apply z00|apply z08|apply z01|refine z0h (fun _=>?_) (fun _=>?_)| refine z0o ?_)))
   all_goals try (exfalso;omega)
   all_goals exact z0c Tryz.func92 _ z1j ⟨by rw[← hi],rfl⟩
theorem zse {cf:FuncId} {sl kk:Nat} {blk:Blk} (p:Int→Bool) (xs:List (Int)) (hl:xs.length≤1000000) (hcl:∀ k x,x∈xs→z1r Tryz.prog cf [.d (z3c x),.ptr (k,sl) 0] [((k,sl),blk)] [] (B (p x))) :
 z1r Tryz.prog 65 [.d (ints xs),.fn (.func cf) [] [.ptr (kk,sl) 0]] [((kk,sl),blk)] [] (B (xs.any p)):=by
 refine z2h fun H hH=>?_
 have hH0:=hH ((kk,sl),blk) (by simp)
 refine z0g Tryz.func65 (by kernel_rfl) rfl (by simp) ?_
 dsimp only[Tryz.f65]
 repeat' (first|(apply z04;(first|refine z0l ?_| (apply z0j;(refine z3u (zsa (kk:=kk+1) p xs hl hcl) rfl (bk1 hH0) (by decide) ?_))))|(apply z05;(first|refine z0k ?_|apply z09))|(apply z06;(first|apply z07|apply z00)))
 all_goals exact z0c Tryz.func65 _ z1j ⟨by rw[← z81 p xs 0],rfl⟩
theorem znl {cf:FuncId} {sl kk:Nat} {blk:Blk} (p:Node→Bool) (xs:List (Node)) (hl:xs.length≤1000000) (hcl:∀ k x,x∈xs→z1r Tryz.prog cf [.d (.agg x.cs),.ptr (k,sl) 0] [((k,sl),blk)] [] (B (p x))) :
 z1r Tryz.prog 157 [.d (.slice (xs.map Node.cs)),.fn (.func cf) [] [.ptr (kk,sl) 0]] [((kk,sl),blk)] [] (I .i64 (z5a p xs 0)):=by
 refine z2h fun H hH=>?_
 have hH0:=hH ((kk,sl),blk) (by simp)
 refine z0g Tryz.func157 (by kernel_rfl) rfl (by simp) ?_
 dsimp only[Tryz.f157]
 repeat' (first|(apply z04;(first|refine z0l ?_| (apply z0x;(refine z02 (z0y rfl) rfl rfl ?_))))|(apply z05;(first|refine z0k ?_|apply z09))|(apply z06;(first|apply z07|apply z00|apply z01)))
 refine z0t ?_
 refine z0e (z1v (fun q:Nat=>⟨19,[(0,.d (.slice (xs.map Node.cs))),(1,.fn (.func cf) [] [.ptr (kk+1,sl) 0]),(7,I .i64 xs.length),(8,I .i64 (q:Nat))],[],H⟩) (fun q=>q≤xs.length∧z5a p (xs.drop q) q=z5a p xs 0) (fun q=>xs.length-q) ?_ 0 ⟨zAf _,rfl⟩) rfl rfl
 intro k ⟨hk,hi⟩ ih
 by_cases hlt:k<xs.length
 · obtain⟨x,hx⟩:∃ x,xs[k]? =some x:=⟨_,zA0 hlt⟩
   have hm:=zA2 hx
   rw[z4h hx,z5a] at hi
   repeat' (first|(apply z04;(first|refine z0l ?_| (apply z0a;(refine z02 z2j rfl rfl ?_))|(apply z0n;(refine z02 (z1o rfl (idx hx)) rfl rfl ?_))|(apply z0z;(refine z02 (z14 z1p) rfl rfl ?_))|(apply z0j;(refine zhm (first:=[]) (cap:=[.ptr (kk+1,sl) 0]) (ps:=[.d (.agg x.cs)]) (bs:=[((kk+1,sl),blk)]) (hcl (kk+1) x hm) rfl rfl (bk1 hH0) (by decide) ?_))))|(apply z05;(first|refine z0k ?_|apply z09))|(apply z06;(first|apply z07|apply z00|apply z08|apply z01|apply z03|refine z0h (fun _=>?_) (fun _=>?_)| refine z2i rfl (fun _=>?_) (fun _=>?_)|refine z0o ?_)))
   all_goals try (exfalso;omega)
   all_goals first
    | (refine z0c Tryz.func157 _ z1j ⟨?_,rfl⟩;rw[← hi,zAy (by assumption)])
    | exact z0e (ih (k+1) ⟨by omega,by rw[← hi,zAx (by simp_all)]⟩ (by omega)) rfl rfl
 · obtain rfl:k=xs.length:=by omega
   rw[zAr,z5a] at hi
   repeat' (first|(apply z04;(refine z0l ?_))|(apply z05;(first|refine z0k ?_|apply z09))|(apply z06;(first|apply z07|apply z00|apply z08|apply z01|refine z0h (fun _=>?_) (fun _=>?_)| refine z0o ?_)))
   all_goals try (exfalso;omega)
   all_goals exact z0c Tryz.func157 _ z1j ⟨by rw[← hi],rfl⟩
theorem zoa {cf:FuncId} {sl kk:Nat} {blk:Blk} (p:Node→Bool) (xs:List (Node)) (hl:xs.length≤1000000) (hcl:∀ k x,x∈xs→z1r Tryz.prog cf [.d (.agg x.cs),.ptr (k,sl) 0] [((k,sl),blk)] [] (B (p x))) :
 z1r Tryz.prog 129 [.d (.slice (xs.map Node.cs)),.fn (.func cf) [] [.ptr (kk,sl) 0]] [((kk,sl),blk)] [] (B (xs.any p)):=by
 refine z2h fun H hH=>?_
 have hH0:=hH ((kk,sl),blk) (by simp)
 refine z0g Tryz.func129 (by kernel_rfl) rfl (by simp) ?_
 dsimp only[Tryz.f129]
 repeat' (first|(apply z04;(first|refine z0l ?_| (apply z0j;(refine z3u (znl (kk:=kk+1) p xs hl hcl) rfl (bk1 hH0) (by decide) ?_))))|(apply z05;(first|refine z0k ?_|apply z09))|(apply z06;(first|apply z07|apply z00)))
 all_goals exact z0c Tryz.func129 _ z1j ⟨by rw[← z81 p xs 0],rfl⟩
theorem ztv {cf:FuncId} {sl kk:Nat} {blk:Blk} (p:Region→Bool) (xs:List (Region)) (hl:xs.length≤1000000) (hcl:∀ k x,x∈xs→z1r Tryz.prog cf [.d (.agg x.cs),.ptr (k,sl) 0] [((k,sl),blk)] [] (B (p x))) :
 z1r Tryz.prog 156 [.d (.slice (xs.map Region.cs)),.fn (.func cf) [] [.ptr (kk,sl) 0]] [((kk,sl),blk)] [] (I .i64 (z5a p xs 0)):=by
 refine z2h fun H hH=>?_
 have hH0:=hH ((kk,sl),blk) (by simp)
 refine z0g Tryz.func156 (by kernel_rfl) rfl (by simp) ?_
 dsimp only[Tryz.f156]
 repeat' (first|(apply z04;(first|refine z0l ?_| (apply z0x;(refine z02 (z0y rfl) rfl rfl ?_))))|(apply z05;(first|refine z0k ?_|apply z09))|(apply z06;(first|apply z07|apply z00|apply z01)))
 refine z0t ?_
 refine z0e (z1v (fun q:Nat=>⟨19,[(0,.d (.slice (xs.map Region.cs))),(1,.fn (.func cf) [] [.ptr (kk+1,sl) 0]),(7,I .i64 xs.length),(8,I .i64 (q:Nat))],[],H⟩) (fun q=>q≤xs.length∧z5a p (xs.drop q) q=z5a p xs 0) (fun q=>xs.length-q) ?_ 0 ⟨zAf _,rfl⟩) rfl rfl
 intro k ⟨hk,hi⟩ ih
 by_cases hlt:k<xs.length
 · obtain⟨x,hx⟩:∃ x,xs[k]? =some x:=⟨_,zA0 hlt⟩
   have hm:=zA2 hx
   rw[z4h hx,z5a] at hi
   repeat' (first|(apply z04;(first|refine z0l ?_| (apply z0a;(refine z02 z2j rfl rfl ?_))|(apply z0n;(refine z02 (z1o rfl (idx hx)) rfl rfl ?_))|(apply z0z;(refine z02 (z14 z1p) rfl rfl ?_))|(apply z0j;(refine zhm (first:=[]) (cap:=[.ptr (kk+1,sl) 0]) (ps:=[.d (.agg x.cs)]) (bs:=[((kk+1,sl),blk)]) (hcl (kk+1) x hm) rfl rfl (bk1 hH0) (by decide) ?_))))|(apply z05;(first|refine z0k ?_|apply z09))|(apply z06;(first|apply z07|apply z00|apply z08|apply z01|apply z03|refine z0h (fun _=>?_) (fun _=>?_)| refine z2i rfl (fun _=>?_) (fun _=>?_)|refine z0o ?_)))
   all_goals try (exfalso;omega)
   all_goals first
    | (refine z0c Tryz.func156 _ z1j ⟨?_,rfl⟩;rw[← hi,zAy (by assumption)])
    | exact z0e (ih (k+1) ⟨by omega,by rw[← hi,zAx (by simp_all)]⟩ (by omega)) rfl rfl
 · obtain rfl:k=xs.length:=by omega
   rw[zAr,z5a] at hi
   repeat' (first|(apply z04;(refine z0l ?_))|(apply z05;(first|refine z0k ?_|apply z09))|(apply z06;(first|apply z07|apply z00|apply z08|apply z01|refine z0h (fun _=>?_) (fun _=>?_)| refine z0o ?_)))
   all_goals try (exfalso;omega)
   all_goals exact z0c Tryz.func156 _ z1j ⟨by rw[← hi],rfl⟩
theorem zrm {cf:FuncId} {sl kk:Nat} {blk:Blk} (p:Region→Bool) (xs:List (Region)) (hl:xs.length≤1000000) (hcl:∀ k x,x∈xs→z1r Tryz.prog cf [.d (.agg x.cs),.ptr (k,sl) 0] [((k,sl),blk)] [] (B (p x))) :
 z1r Tryz.prog 126 [.d (.slice (xs.map Region.cs)),.fn (.func cf) [] [.ptr (kk,sl) 0]] [((kk,sl),blk)] [] (B (xs.any p)):=by
 refine z2h fun H hH=>?_
 have hH0:=hH ((kk,sl),blk) (by simp)
 refine z0g Tryz.func126 (by kernel_rfl) rfl (by simp) ?_
 dsimp only[Tryz.f126]
 repeat' (first|(apply z04;(first|refine z0l ?_| (apply z0j;(refine z3u (ztv (kk:=kk+1) p xs hl hcl) rfl (bk1 hH0) (by decide) ?_))))|(apply z05;(first|refine z0k ?_|apply z09))|(apply z06;(first|apply z07|apply z00)))
 all_goals exact z0c Tryz.func126 _ z1j ⟨by rw[← z81 p xs 0],rfl⟩
structure zps (g:Lf):Prop where
 op:g.op=6∨g.op=7∨g.op=8∨g.op=9∨g.op=10
 h1:g.op≠9→g.name=⟨#[]⟩
 h2:g.op≠10→g.mn=0∧g.mx=0
 h3:g.op≠8→g.args=[]
 h4:g.op=10→g.b=⟨#[]⟩
 hl:g.args.length≤1000000
theorem zs5 (g:Lf) (h:zps g):z0m Tryz.prog 59 [g.d,.fn (.func 60) [] []] (B true):=by
 refine z10 fun H=>?_
 refine z0g Tryz.func59 (by kernel_rfl) rfl (by simp) ?_
 dsimp only[Tryz.f59]
 repeat' (first|(apply z04;(first|refine z0l ?_| (apply z0a;(first|refine z02 z2c rfl rfl ?_| refine z02 z18 rfl rfl ?_))|(apply z0d;(refine z02 z1a rfl rfl ?_))|(apply z0j;(first|refine zl2 (first:=[]) (cap:=[]) (ps:=[g.d]) (zs0 g h.op h.h1 h.h2 h.h3 h.h4 h.hl) rfl rfl (by decide) ?_|refine z2s (zi0 _) ?_))|(apply z1c;(refine z0b z45 ?_))|refine z43 rfl rfl (by decide) ?_))|(apply z05;(first|refine z0k ?_|apply z09))|(apply z06;(first|apply z07|apply z00)))
 all_goals first
  | exact z0c Tryz.func59 _ z1j ⟨rfl,rfl⟩
  | (exfalso;simp_all;done)
theorem zsn (g:Lf) (h:zps g):z0m Tryz.prog 29 [g.d] (B true):=by
 have hop:g.op≠0:=by have:=h.op;omega
 refine z10 fun H=>?_
 refine z0g Tryz.func29 (by kernel_rfl) rfl (by simp) ?_
 dsimp only[Tryz.f29]
 repeat' (first|(apply z04;(first|refine z0l ?_| (apply z0a;(refine z02 z2c rfl rfl ?_))|(apply z0j;(first|refine z2s (zwa g hop) ?_| refine z2s (zm2 g) ?_| refine z2s (zs5 g h) ?_))|(apply z1c;(refine z0b z1q ?_))))|(apply z05;(first|refine z0k ?_|apply z09))|(apply z06;(first|apply z07|apply z00|refine z1f ?_| apply z08)))
 all_goals first
  | exact z0c Tryz.func29 _ z1j ⟨rfl,rfl⟩
  | (exfalso;simp_all;done)
theorem zjq (c:z0v) (g:Lf) (h:zps g):z0m Tryz.prog 30 [c.d,g.d] (B true):=by
 have hop:g.op≠2∧g.op≠3:=by have:=h.op;omega
 refine z10 fun H=>?_
 refine z0g Tryz.func30 (by kernel_rfl) rfl (by simp) ?_
 dsimp only[Tryz.f30]
 repeat' (first|(apply z04;(first|refine z0l ?_| (apply z0a;(refine z02 z18 rfl rfl ?_))|(apply z0d;(refine z02 z1a rfl rfl ?_))|(apply z0j;(refine z2s (zi0 _) ?_))|(apply z1c;(refine z0b z1q ?_))|refine z43 rfl rfl (by decide) ?_))|(apply z05;(first|refine z0k ?_|apply z09))|(apply z06;(first|apply z07|apply z00|apply z08|apply z01|apply z03|refine z0h (fun _=>?_) (fun _=>?_))))
 all_goals first
  | (exfalso;omega)
  | exact z0c Tryz.func30 _ z1j ⟨rfl,rfl⟩
  | (exfalso;simp_all;done)
def zn8 (c:z0v) (t:Int):Bool:=decide (t< -1)||decide ((c.tokens.length:Int)≤t)
theorem zrl (c:z0v) (t:Int) (k sl:Nat) (hc:c.tokens.length≤1000000):z1r Tryz.prog 66 [.d (z3c t),.ptr (k,sl) 0] [((k,sl),.box (c.cs.map .d))] [] (B (zn8 c t)):=by
 refine z2h fun H hH=>?_
 have hH0:=hH ((k,sl),.box (c.cs.map .d)) (by simp)
 refine z0g Tryz.func66 (by kernel_rfl) rfl (by simp) ?_
 dsimp only[Tryz.f66]
 repeat' (first|(apply z04;(first|refine z0l ?_| (apply z0a;(refine z02 (z18 (b:=.box (c.cs.map .d))) rfl (bk1 hH0) ?_))|(apply z0d;(refine z02 z1a rfl rfl ?_))|(apply z0x;(refine z02 (z0y rfl) rfl rfl ?_))))|(apply z05;(first|refine z0k ?_|apply z09|refine z1m ?_| refine z1t (fun _=>?_) (fun _=>?_)))|(apply z06;(first|apply z07|apply z00)))
 all_goals first
  | (refine z0c Tryz.func66 _ z1j ⟨?_,rfl⟩;unfold zn8;simp_all;done)
  | (refine z0c Tryz.func66 _ z1j ⟨?_,rfl⟩;rw[show zn8 c t=decide ((c.tokens.length:Int)≤t) from by unfold zn8;rw[zAn (p:=t< -1) (by assumption),Bool.false_or]])
abbrev za2 (b e:Int) (ls:List Int):PV:=.d (.agg [z3c b,z3c e,ints ls])
theorem zqm (c:z0v) (labs:List Str) (b e:Int) (ls:List Int) (hc:c.tokens.length≤1000000) (hl:ls.length≤1000000) (hn:labs.length≤1000000) (hll:ls.length=labs.length):z0m Tryz.prog 31 [c.d,.d (strs labs),za2 b e ls] (B (!ls.any (zn8 c))):=by
 refine z10 fun H=>?_
 refine z0g Tryz.func31 (by kernel_rfl) rfl (by simp) ?_
 dsimp only[Tryz.f31]
 repeat' (first|(apply z04;(first|refine z0l ?_| (apply z0a;(refine z02 z18 rfl rfl ?_))|(apply z0d;(refine z02 z1a rfl rfl ?_))|(apply z0x;(refine z02 (z0y rfl) rfl rfl ?_))|(apply z0j;(refine z3u (zse (kk:=0) (zn8 c) ls hl (fun k x _=>zrl c x k 3 hc)) rfl rfl (by decide) ?_))|(apply z1c;(refine z0b z1q ?_))|refine z43 rfl rfl (by decide) ?_))|(apply z05;(first|refine z0k ?_|apply z09|refine z1m ?_| refine z1t (fun _=>?_) (fun _=>?_)))|(apply z06;(first|apply z07|apply z00)))
 all_goals first
  | (exfalso;omega)
  | exact z0c Tryz.func31 _ z1j ⟨rfl,rfl⟩
theorem zif (l:List Str) (x:Str) (hl:l.length≤1000000):z0m Tryz.prog 93 [.d (strs l),S x] (I .i64 (z5a (fun y=>decide (x=y)) l 0)):=by
 refine z10 fun H=>?_
 refine z0g Tryz.func93 (by kernel_rfl) rfl (by simp) ?_
 dsimp only[Tryz.f93]
 repeat' (first|(apply z04;(first|refine z0l ?_| (apply z0x;(refine z02 (z0y rfl) rfl rfl ?_))))|(apply z05;(first|refine z0k ?_|apply z09))|(apply z06;(first|apply z07|apply z00|apply z01)))
 refine z0t ?_
 refine z0e (z1v (fun q:Nat=>⟨19,[(0,.d (strs l)),(1,S x),(7,I .i64 l.length),(8,I .i64 (q:Nat))],[],H⟩) (fun q=>q≤l.length∧z5a (fun y=>decide (x=y)) (l.drop q) q=z5a (fun y=>decide (x=y)) l 0) (fun q=>l.length-q) ?_ 0 ⟨zAf _,rfl⟩) rfl rfl
 intro k ⟨hk,hi⟩ ih
 by_cases hlt:k<l.length
 · obtain⟨y,hy⟩:∃ x,l[k]? =some x:=⟨_,zA0 hlt⟩
   rw[z4h hy,z5a] at hi
   repeat' (first|(apply z04;(first|refine z0l ?_| (apply z0a;(refine z02 z2p rfl rfl ?_))|(apply z0n;(refine z02 (z1o rfl (idx hy)) rfl rfl ?_))|(apply z0z;(refine z02 (z14 z1p) rfl rfl ?_))))|(apply z05;(first|refine z0k ?_|apply z09))|(apply z06;(first|apply z07|apply z00|apply z08|apply z01|apply z03|refine z0h (fun _=>?_) (fun _=>?_)| refine z0o ?_)))
   all_goals try (exfalso;omega)
   all_goals first
    | (refine z0c Tryz.func93 _ z1j ⟨?_,rfl⟩;rw[← hi,zAy (by simp_all)])
    | exact z0e (ih (k+1) ⟨by omega,by rw[← hi,zAx (by simp_all)]⟩ (by omega)) rfl rfl
 · obtain rfl:k=l.length:=by omega
   rw[zAr,z5a] at hi
   repeat' (first|(apply z04;(refine z0l ?_))|(apply z05;(first|refine z0k ?_|apply z09))|(apply z06;(first|apply z07|apply z00|apply z08|apply z01|refine z0h (fun _=>?_) (fun _=>?_)| refine z0o ?_)))
   all_goals try (exfalso;omega)
   all_goals exact z0c Tryz.func93 _ z1j ⟨by rw[← hi],rfl⟩
def z2r:List Str:=[⟨#[120]⟩,⟨#[121]⟩]
theorem zdb (b e i j:Int):z0m Tryz.prog 69 [.d (strs z2r),za2 b e [i,j],S ⟨#[120]⟩] (I .i64 i):=by
 have hx:z0m Tryz.prog 93 [.d (strs z2r),S ⟨#[120]⟩] (I .i64 0):=zif z2r ⟨#[120]⟩ (by decide)
 have hv:([i,j]:List Int)[(0:Int).toNat]? =some i:=rfl
 exact zD10
theorem zj9 (b e i j:Int):z0m Tryz.prog 69 [.d (strs z2r),za2 b e [i,j],S ⟨#[121]⟩] (I .i64 j):=by
 have hx:z0m Tryz.prog 93 [.d (strs z2r),S ⟨#[121]⟩] (I .i64 1):=zif z2r ⟨#[121]⟩ (by decide)
 have hv:([i,j]:List Int)[(1:Int).toNat]? =some j:=rfl
 exact zD10
def z8y (c:z0v) (a:Int) (k:Nat):List Str:=((way c a).take k).map (zro c)
theorem zp3 {c:z0v} (h:Wf c) {a:Int} (ha:token c a=true) {k:Nat} {t:Int} (ht:(way c a)[k]? =some t):(up c a).drop k=up c t∧token c t=true:=by
 have e:=zi2 h k a ha t ht
 refine⟨?_,zm7 h ha t (zA2 ht)⟩
 have:=congrArg (List.drop 1) e
 rw[List.drop_drop] at this
 simpa[way] using this
theorem ztl (c:z0v) (a:Int) (k:Nat):(way c a)[k+1]? =(up c a)[k]?:=by simp[way]
theorem zjw {c:z0v} (hw:Wf c) {a:Int} (ha:token c a=true):z0m Tryz.prog 72 [c.d,I .i64 a] (.tup [.d (ints (up c a)),.d (strs (z8y c a (up c a).length))]):=by
 have htok:=hw.tok
 have hul:=zdo c a
 have hlen:(way c a).length=(up c a).length+1:=rfl
 have hrl:=hw.rel
 have hhd:=hw.hd
 refine z10 fun H=>?_
 refine z0g Tryz.func72 (by kernel_rfl) rfl (by simp) ?_
 dsimp only[Tryz.f72]
 repeat' (first|(apply z04;(first|refine z5z rfl rfl rfl (by decide) ?_|(apply z1c;(refine z0b z1q ?_))))|(apply z05;(first|refine z0k ?_|apply z09))|(apply z06;(first|apply z07|apply z00|apply z01)))
 refine z0t ?_
 refine z0e (z1v (fun q:Nat × Int=>⟨58,[(1,I .i64 q.2),(2,.ptr (0,2) 0),(6,.ref (0,6)),(7,.ref (0,7))],[(7,.row 9 1 ((z8y c a q.1).map fun x=>[z5p x])),(6,.row 3 1 (((up c a).take q.1).map fun x=>[z3c x])),(2,.box (c.cs.map .d))],H⟩) (fun q=>(way c a)[q.1]? =some q.2) (fun q=>(way c a).length-q.1) ?_ (0,a) (by simp[way])) rfl rfl
 intro ⟨k,t⟩ hk ih
 simp only at hk ih ⊢
 have hkl:=(zA1.1 hk).1
 obtain⟨hdr,htt⟩:=zp3 hw ha hk
 have h0:=(z3d c t).1 htt
 have htl:((up c a).take k).length=k:=by simp;omega
 have hrk:(z8y c a k).length=k:=by simp[z8y];omega
 have hsmall:(z8y c a k).length<137438953472:=by omega
 have hsmall2:((up c a).take k).length<137438953472:=by omega
 have hend:up c t=[]→k=(up c a).length:=fun e=>by
  have:=congrArg List.length hdr
  rw[e,List.length_drop] at this;simp at this;omega
 have hfin:up c t=[]→(up c a).take k=up c a∧z8y c a k=z8y c a (up c a).length:=fun e=>by rw[hend e];simp
 cases hh:c.heads[t.toNat]? with
 | none =>
  have hnh:¬ t<c.heads.length:=by rw[List.getElem?_eq_none_iff] at hh;omega
  have he:up c t=[]:=by rw[zca hw htt,zAy (by simp[head,hh])]
  obtain⟨e1,e2⟩:=hfin he
  repeat' (first|(apply z04;(first|refine z0l ?_| (apply z0a;(refine z02 z18 rfl rfl ?_))|(apply z0d;(refine z02 z1a rfl rfl ?_))|(apply z0x;(first|refine z02 (z0y rfl) rfl rfl ?_| refine z02 (z3m rfl) rfl rfl ?_))))|(apply z05;(first|refine z0k ?_|apply z09|refine z1m ?_| refine z1t (fun _=>?_) (fun _=>?_)))|(apply z06;(first|apply z07|apply z00|refine z1f ?_| apply z08|apply z01|refine z0h (fun _=>?_) (fun _=>?_)| refine z0o ?_)))
  all_goals try (exfalso;omega)
  all_goals
   refine z19 6 rfl ?_
   refine z19 7 rfl ?_
   exact z0c Tryz.func72 _ z2m ⟨by rw[e1,e2];rfl,rfl⟩
 | some x =>
  have hxl:=(zA1.1 hh).1
  obtain⟨r,hr⟩:∃ r,c.rels[t.toNat]? =some r:=⟨_,zA0 (by omega)⟩
  have hrt:zro c t=r:=by simp[zro,hr]
  have hbad:(x<0∨(c.tokens.length:Int)≤x)→up c t=[]:=fun e=>by
   rw[zca hw htt,zAy]
   simp only[head,hh]
   rw[zAx]
   rw[z3d];omega
  have hgood:0≤x→x<c.tokens.length→head c t=x:=fun e1 e2=>by
   simp only[head,hh]
   rw[zAy ((z3d c x).2 ⟨e1,e2⟩)]
  have hgo:0≤x→x<c.tokens.length→(way c a)[k+1]? =some x∧(up c a).take (k+1)=(up c a).take k++[x]∧z8y c a (k+1)=z8y c a k++[r]:=fun e1 e2=>by
   have hu:up c t=x::up c x:=by rw[zca hw htt,zAx (by rw[hgood e1 e2];omega),hgood e1 e2]
   have hx:(up c a)[k]? =some x:=by
    have:=congrArg (fun l=>l[0]?) (hdr.trans hu)
    simpa[List.getElem?_drop] using this
   refine⟨by rw[ztl];exact hx,by rw[List.take_add_one,hx];rfl,?_⟩
   rw[z8y,List.take_add_one,hk,List.map_append]
   simp[z8y,hrt]
  have hfull:¬ ((((up c a).take k).length:Nat):Int)<(c.tokens.length:Int)→up c t=[]:=fun e=>by
   have:k=(up c a).length:=by omega
   rw[← hdr,this];simp
  repeat' (first|(apply z04;(first|refine z0l ?_| (apply z0a;(first|refine z02 z18 rfl rfl ?_| refine z02 z2p rfl rfl ?_))|(apply z0d;(refine z02 z1a rfl rfl ?_))|(apply z0n;(first|refine z02 (z23 rfl h0.1 (z6u hh) rfl) rfl rfl ?_| refine z02 (z23 rfl h0.1 (z6u hr) rfl) rfl rfl ?_))|(apply z0x;(first|refine z02 (z0y rfl) rfl rfl ?_| refine z02 (z3m rfl) rfl rfl ?_| refine z97 _ rfl ?_))|(apply z3t;(refine z3s rfl ?_))))|(apply z05;(first|refine z0k ?_|apply z09|refine z1m ?_| refine z1t (fun _=>?_) (fun _=>?_)))|(apply z06;(first|apply z07|apply z00|refine z1b rfl ?_|refine z1f ?_| apply z08|apply z01|apply z03|refine z0h (fun _=>?_) (fun _=>?_)| refine z0o ?_)))
  all_goals try (exfalso;omega)
  all_goals first
   | (have he:up c t=[]:=by first|exact hbad (by omega)|exact hfull (by assumption)
      obtain⟨e1,e2⟩:=hfin he
      refine z19 6 rfl ?_
      refine z19 7 rfl ?_
      exact z0c Tryz.func72 _ z2m ⟨by rw[e1,e2];rfl,rfl⟩)
   | (obtain⟨e1,e2,e3⟩:=hgo (by omega) (by omega)
      refine z4x 54 6 rfl rfl ?_
      refine z4x 50 7 rfl rfl ?_
      refine z0e (ih (k+1,x) e1 (by simp only;omega)) ?_ ?_
      all_goals first|(rw[e2,e3];rfl)|rfl)
theorem zo5 (l:List Int) (x:Int) (hl:l.length≤1000000):z0m Tryz.prog 110 [.d (ints l),I .i64 x] (I .i64 (z5a (fun y=>decide (x=y)) l 0)):=by
 refine z10 fun H=>?_
 refine z0g Tryz.func110 (by kernel_rfl) rfl (by simp) ?_
 dsimp only[Tryz.f110]
 repeat' (first|(apply z04;(first|refine z0l ?_| (apply z0x;(refine z02 (z0y rfl) rfl rfl ?_))))|(apply z05;(first|refine z0k ?_|apply z09))|(apply z06;(first|apply z07|apply z00|apply z01)))
 refine z0t ?_
 refine z0e (z1v (fun q:Nat=>⟨19,[(0,.d (ints l)),(1,I .i64 x),(7,I .i64 l.length),(8,I .i64 (q:Nat))],[],H⟩) (fun q=>q≤l.length∧z5a (fun y=>decide (x=y)) (l.drop q) q=z5a (fun y=>decide (x=y)) l 0) (fun q=>l.length-q) ?_ 0 ⟨zAf _,rfl⟩) rfl rfl
 intro k ⟨hk,hi⟩ ih
 by_cases hlt:k<l.length
 · obtain⟨y,hy⟩:∃ x,l[k]? =some x:=⟨_,zA0 hlt⟩
   rw[z4h hy,z5a] at hi
   repeat' (first|(apply z04;(first|refine z0l ?_| (apply z0a;(refine z02 z2p rfl rfl ?_))|(apply z0n;(refine z02 (z1o rfl (idx hy)) rfl rfl ?_))|(apply z0z;(refine z02 (z14 z1p) rfl rfl ?_))))|(apply z05;(first|refine z0k ?_|apply z09))|(apply z06;(first|apply z07|apply z00|apply z08|apply z01|apply z03|refine z0h (fun _=>?_) (fun _=>?_)| refine z0o ?_)))
   all_goals exact zD44
 · exact zD27
theorem zhv (l:List Int) (x:Int) (hl:l.length≤1000000):z0m Tryz.prog 84 [.d (ints l),I .i64 x] (B (l.any fun y=>decide (x=y))):=by
 refine z10 fun H=>?_
 refine z0g Tryz.func84 (by kernel_rfl) rfl (by simp) ?_
 dsimp only[Tryz.f84]
 repeat' (first|(apply z04;(first|refine z0l ?_| (apply z0j;(refine z2s (zo5 l x hl) ?_))))|(apply z05;(first|refine z0k ?_|apply z09))|(apply z06;(first|apply z07|apply z00)))
 all_goals exact z0c Tryz.func84 _ z1j ⟨by rw[← z81 _ l 0],rfl⟩
theorem zpl (a b:List Str) (ha:a.length≤1000000) (hb:b.length≤1000000):z0m Tryz.prog 128 [.d (strs a),.d (strs b)] (B (decide (a=b))):=by
 refine z10 fun H=>?_
 refine z0g Tryz.func128 (by kernel_rfl) rfl (by simp) ?_
 dsimp only[Tryz.f128]
 by_cases hlen:a.length=b.length
 · repeat' (first|(apply z04;(first|refine z0l ?_| (apply z0x;(refine z02 (z0y rfl) rfl rfl ?_))))|(apply z05;(first|refine z0k ?_|apply z09))|(apply z06;(first|apply z07|apply z00|apply z08|apply z01|refine z3o rfl (fun _=>?_) (fun _=>?_))))
   · exfalso;omega
   refine z0t ?_
   refine z0e (z1v (fun q:Nat=>⟨26,[(0,.d (strs a)),(1,.d (strs b)),(12,I .i64 a.length),(13,I .i64 (q:Nat))],[],H⟩) (fun q=>q≤a.length∧∀ j<q,a[j]? =b[j]?) (fun q=>a.length-q) ?_ 0 ⟨zAf _,by simp⟩) rfl rfl
   intro k ⟨hk,hi⟩ ih
   by_cases hlt:k<a.length
   · obtain⟨x,hx⟩:∃ x,a[k]? =some x:=⟨_,zA0 hlt⟩
     obtain⟨y,hy⟩:∃ x,b[k]? =some x:=⟨_,zA0 (by omega)⟩
     repeat' (first|(apply z04;(first|refine z0l ?_| (apply z0z;(refine z02 (z14 z1p) rfl rfl ?_))))|(apply z05;(first|refine z0k ?_|apply z09))|(apply z06;(first|apply z07|apply z00|apply z08|apply z01|apply z2z|apply z03|refine z0h (fun _=>?_) (fun _=>?_)| refine z3o rfl (fun _=>?_) (fun _=>?_)|refine z0o ?_))|(apply z2v;(first|(apply z1l;refine z2n mix ?_)|refine z3h ?_| (apply z0u;(refine z0w z2p rfl rfl ?_))|(apply z1n;(first|refine z0w (z1o rfl (idx hx)) rfl rfl ?_| refine z0w (z1o rfl (idx hy)) rfl rfl ?_)))))
     all_goals try (exfalso;omega)
     all_goals first
      | (refine z0c Tryz.func128 _ z1j ⟨?_,rfl⟩
         rw[zAn]
         intro e;subst e;rw[hx] at hy;simp_all;done)
      | (refine z0e (ih (k+1) ⟨by omega,fun j hj=>?_⟩ (by omega)) rfl rfl
         by_cases e:j=k
         · subst e;rw[hx,hy];simp_all
         · exact hi j (by omega))
   · repeat' (first|(apply z04;(refine z0l ?_))|(apply z05;(first|refine z0k ?_|apply z09))|(apply z06;(first|apply z07|apply z00|apply z08|apply z01|apply z2z|refine z0h (fun _=>?_) (fun _=>?_)| refine z0o ?_))|(apply z2v;(refine z3h ?_)))
     all_goals try (exfalso;omega)
     all_goals
      refine z0c Tryz.func128 _ z1j ⟨?_,rfl⟩
      rw[zAi]
      exact zry hlen (fun j hj=>hi j (by omega))
 · repeat' (first|(apply z04;(first|refine z0l ?_| (apply z0x;(refine z02 (z0y rfl) rfl rfl ?_))))|(apply z05;(first|refine z0k ?_|apply z09))|(apply z06;(first|apply z07|apply z00|apply z08|apply z01|refine z3o rfl (fun _=>?_) (fun _=>?_))))
   · refine z0c Tryz.func128 _ z1j ⟨?_,rfl⟩
     rw[zAn]
     intro e;subst e;exact hlen rfl
   · exfalso;omega
abbrev scD (c:z0v) (g:Lf) (a b:Int):PV:=.d (.agg (c.cs++g.cs++[z3c a,z3c b]))
theorem zsk {c:z0v} (hw:Wf c) (g:Lf) {a:Int} (b:Int) (ha:token c a=true):z0m Tryz.prog 100 [scD c g a b] (B (decide ((up c a)[0]? =some b))):=by
 have hul:=zdo c a
 have htok:=hw.tok
 refine z10 fun H=>?_
 refine z0g Tryz.func100 (by kernel_rfl) rfl (by simp) ?_
 dsimp only[Tryz.f100]
 cases hu:up c a with
 | nil =>
  have hs:=zjw hw ha
  rw[hu] at hs
  repeat' (first|(apply z04;(first|refine z0l ?_| (apply z0a;(first|refine z02 z18 rfl rfl ?_| refine z02 z2a rfl rfl ?_))|(apply z0d;(refine z02 z1a rfl rfl ?_))|(apply z0j;(refine z2s hs ?_))|(apply z1c;(refine z0b z1q ?_))))|(apply z05;(first|refine z0k ?_|apply z09))|(apply z06;(first|apply z07|apply z00|apply z2z))|(apply z2v;(first|(apply z1l;refine z2n mix ?_)|refine z6r rfl rfl (by decide) ?_|refine z3h ?_| (apply z3n;(refine z0w (z0y rfl) rfl rfl ?_)))))
  all_goals try (exfalso;simp_all;done)
  all_goals exact z0c Tryz.func100 _ z1j ⟨rfl,rfl⟩
 | cons x r =>
  have hs:=zjw hw ha
  rw[hu] at hs hul
  have h0:(x::r)[(0:Int).toNat]? =some x:=rfl
  repeat' (first|(apply z04;(first|refine z0l ?_| (apply z0a;(first|refine z02 z18 rfl rfl ?_| refine z02 z2a rfl rfl ?_))|(apply z0d;(refine z02 z1a rfl rfl ?_))|(apply z0j;(refine z2s hs ?_))|(apply z1c;(refine z0b z1q ?_))))|(apply z05;(first|refine z0k ?_|apply z09))|(apply z06;(first|apply z07|apply z00|apply z2z))|(apply z2v;(first|(apply z1l;refine z2n mix ?_)|refine z6r rfl rfl (by decide) ?_|refine z3h ?_| (apply z0u;(first|refine z0w z18 rfl rfl ?_| refine z0w z2p rfl rfl ?_))|(apply z0q;(refine z0w z1a rfl rfl ?_))|(apply z1n;(refine z0w (z1o rfl (z6u h0)) rfl rfl ?_))|(apply z3n;(refine z0w (z0y rfl) rfl rfl ?_))|(refine z4b rfl rfl (fun hg=>?_) (fun hg=>?_) <;> simp only[hg] <;> (try simp only[zA3,zA5,zA6,zA8] at hg)))))
  all_goals try (exfalso;simp_all;done)
  all_goals exact z0c Tryz.func100 _ z1j ⟨by simp,rfl⟩
theorem zvq {c:z0v} (hw:Wf c) (g:Lf) {a:Int} (b:Int) (ha:token c a=true):z0m Tryz.prog 101 [scD c g a b] (B ((up c a).any fun y=>decide (b=y))):=by
 have hul:=zdo c a
 have htok:=hw.tok
 refine z10 fun H=>?_
 refine z0g Tryz.func101 (by kernel_rfl) rfl (by simp) ?_
 dsimp only[Tryz.f101]
 repeat' (first|(apply z04;(first|refine z0l ?_| (apply z0a;(first|refine z02 z18 rfl rfl ?_| refine z02 z2a rfl rfl ?_))|(apply z0d;(refine z02 z1a rfl rfl ?_))|(apply z0j;(first|refine z2s (zjw hw ha) ?_| refine zyr (zhv (up c a) b (by omega)) rfl (by decide) ?_))|(apply z1c;(refine z0b z1q ?_))))|(apply z05;(first|refine z0k ?_|apply z09))|(apply z06;(first|apply z07|apply z00)))
 all_goals exact z0c Tryz.func101 _ z1j ⟨rfl,rfl⟩
theorem zoz {kk sl:Nat} (l:List Int) (x:Int) (hl:l.length≤1000000):z1r Tryz.prog 110 [.ref (kk,sl),I .i64 x] [((kk,sl),.row 3 1 (l.map fun x=>[z3c x]))] [] (I .i64 (z5a (fun y=>decide (x=y)) l 0)):=by
 refine z2h fun H hH=>?_
 have hH0:=hH ((kk,sl),.row 3 1 (l.map fun x=>[z3c x])) (by simp)
 refine z0g Tryz.func110 (by kernel_rfl) rfl (by simp) ?_
 dsimp only[Tryz.f110]
 repeat' (first|(apply z04;(first|refine z0l ?_| (apply z0x;(refine z02 (z3m rfl) rfl (bk1 hH0) ?_))))|(apply z05;(first|refine z0k ?_|apply z09))|(apply z06;(first|apply z07|apply z00|apply z01)))
 refine z0t ?_
 refine z0e (z1v (fun q:Nat=>⟨19,[(0,.ref (kk+1,sl)),(1,I .i64 x),(7,I .i64 l.length),(8,I .i64 (q:Nat))],[],H⟩) (fun q=>q≤l.length∧z5a (fun y=>decide (x=y)) (l.drop q) q=z5a (fun y=>decide (x=y)) l 0) (fun q=>l.length-q) ?_ 0 ⟨zAf _,rfl⟩) rfl rfl
 intro k ⟨hk,hi⟩ ih
 by_cases hlt:k<l.length
 · obtain⟨y,hy⟩:∃ x,l[k]? =some x:=⟨_,zA0 hlt⟩
   rw[z4h hy,z5a] at hi
   repeat' (first|(apply z04;(refine z0l ?_))|(apply z05;(first|refine z0k ?_|apply z09))|(apply z06;(first|apply z07|apply z00|apply z08|apply z01|refine z0h (fun _=>?_) (fun _=>?_)| refine z0o ?_)))
   refine z04 ?_
   refine z02 (z25 (kk:=1) (e':=3) (ys:=l.map fun x=>[z3c x]) rfl (by omega) (by rw[zA4];omega) rfl) rfl (bk1 hH0) ?_
   repeat' (first|(apply z04;(first|refine z0l ?_| (apply z0a;(refine z02 (z2e hy rfl rfl rfl) rfl (bk1 hH0) ?_))|(apply z0z;(refine z02 (z14 z1p) rfl rfl ?_))))|(apply z05;(first|refine z0k ?_|apply z09))|(apply z06;(first|apply z07|apply z00|apply z08|apply z03|refine z0h (fun _=>?_) (fun _=>?_))))
   all_goals exact zD44
 · exact zD27
def zrh (c:z0v) (g:Lf) (a b:Int):Bool :=
 decide (0≤z5a (fun y=>decide (b=y)) (way c a) 0)&&decide ((z8y c a (up c a).length).take (z5a (fun y=>decide (b=y)) (way c a) 0).toNat=g.args)
theorem zmz (c:z0v) (a:Int):(z8y c a (up c a).length).length=(up c a).length:=by simp[z8y,way]
theorem zrj {c:z0v} (hw:Wf c) (g:Lf) (hg:g.args.length≤1000000) {a:Int} (b:Int) (ha:token c a=true):z0m Tryz.prog 102 [scD c g a b] (B (zrh c g a b)):=by
 have hul:=zdo c a
 have htok:=hw.tok
 have hrl:=zmz c a
 have hwl:(way c a).length=(up c a).length+1:=rfl
 have hr:=zdj (fun y=>decide (b=y)) (way c a) 0
 have hx:∀ k,z1r Tryz.prog 110 [.ref (0,k),I .i64 b] [((0,k),.row 3 1 ((way c a).map fun x=>[z3c x]))] [] (I .i64 (z5a (fun y=>decide (b=y)) (way c a) 0)):=fun k=>zoz (way c a) b (by omega)
 unfold zrh
 generalize z5a (fun y=>decide (b=y)) (way c a) 0=n at hr hx ⊢
 have hq:=zpl ((z8y c a (up c a).length).take n.toNat) g.args (by rw[zAm];omega) hg
 refine z10 fun H=>?_
 refine z0g Tryz.func102 (by kernel_rfl) rfl (by simp) ?_
 dsimp only[Tryz.f102]
 repeat' (first|(apply z04;(first|refine z0l ?_| (apply z0a;(first|refine z02 z18 rfl rfl ?_| refine z02 z2a rfl rfl ?_))|(apply z0d;(refine z02 z1a rfl rfl ?_))|(apply z0j;(refine z2s (zjw hw ha) ?_))|(apply z1c;(refine z0b z1q ?_))))|(apply z05;(first|refine z0k ?_|apply z09))|(apply z06;(first|apply z07|apply z00|apply z2z))|(apply z2v;(first|(apply z1l;refine z2n mix ?_)|refine z6r rfl rfl (by decide) ?_|refine z3h ?_| (apply z0u;(refine z0w z18 rfl rfl ?_))|(apply z0q;(refine z0w z1a rfl rfl ?_))|(apply z6e;(refine z0w (z6m rfl (by omega) (by omega) (fun _=>rfl)) rfl rfl ?_))|(apply z3n;(refine zat (q:=[a]) (r:=up c a) (by first|exact rfl|exact⟨_,rfl,rfl,rfl⟩) rfl rfl rfl rfl rfl (fun _=>rfl) rfl rfl (by decide) (by simp;omega) ?_))|(apply z22;(first|refine z5f hq ?_| refine zus (first:=[]) (cap:=[]) (ps:=[.ref (0,18),I .i64 b]) (bs:=[((0,18),.row 3 1 ((way c a).map fun x=>[z3c x]))]) (hx 18) (by first|exact rfl|exact⟨_,rfl,rfl,rfl⟩) rfl rfl (bk1 rfl) (by decide) ?_))|(apply z5l;(refine zqv (ys:=[a].map fun x=>[z3c x]) (by first|exact rfl|exact⟨_,rfl,rfl,rfl⟩) rfl rfl rfl rfl rfl rfl rfl rfl rfl (by decide) ?_))|(refine z4b rfl rfl (fun hg=>?_) (fun hg=>?_) <;> simp only[hg] <;> (try simp only[zA3,zA5,zA6,zA8] at hg)))))
 all_goals exact z0c Tryz.func102 _ z1j ⟨by first|rfl|(rw[zAi (p:=0≤n) (by assumption)];rfl)|(rw[zAn (p:=0≤n) (by assumption)];rfl),rfl⟩
abbrev scL (c:z0v) (g:Lf) (a b:Int):List D:=c.cs++g.cs++[z3c a,z3c b]
def zmq (g:Lf) (a b:Int) (n:Node):Bool:=decide (n.label=g.name)&&decide (n.b≤min a b)&&decide (max a b<n.e)
theorem zsc (c:z0v) (g:Lf) (a b:Int) (n:Node) (k sl:Nat):z1r Tryz.prog 130 [.d (.agg n.cs),.ptr (k,sl) 0] [((k,sl),.box ((scL c g a b).map .d))] [] (B (zmq g a b n)):=by
 refine z2h fun H hH=>?_
 have hH0:=hH ((k,sl),.box ((scL c g a b).map .d)) (by simp)
 refine z0g Tryz.func130 (by kernel_rfl) rfl (by simp) ?_
 dsimp only[Tryz.f130]
 repeat' (first|(apply z04;(first|refine z0l ?_| (apply z0a;(first|refine z02 (z18 (b:=.box ((scL c g a b).map .d))) rfl (bk1 hH0) ?_| refine z02 z18 rfl rfl ?_))|(apply z0d;(refine z02 z1a rfl rfl ?_))|(apply z0x;(first|refine z02 zjt rfl rfl ?_| refine z02 ze4 rfl rfl ?_))|(apply z1c;(refine z0b z1q ?_))))|(apply z05;(first|refine z0k ?_|apply z09|refine z1m ?_| refine z1t (fun _=>?_) (fun _=>?_)))|(apply z06;(first|apply z07|apply z00)))
 all_goals exact z0c Tryz.func130 _ z1j ⟨by unfold zmq;first|(rw[zAi (p:=n.label=g.name) (by assumption),zAi (p:=n.b≤min a b) (by assumption)];rfl)|(rw[zAi (p:=n.label=g.name) (by assumption),zAn (p:=n.b≤min a b) (by assumption)];rfl)|(rw[zAn (p:=n.label=g.name) (by assumption)];rfl),rfl⟩
theorem zrp (c:z0v) (g:Lf) (a b:Int) (hc:c.nodes.length≤1000000):z0m Tryz.prog 103 [scD c g a b] (B (c.nodes.any (zmq g a b))):=by
 refine z10 fun H=>?_
 refine z0g Tryz.func103 (by kernel_rfl) rfl (by simp) ?_
 dsimp only[Tryz.f103]
 repeat' (first|(apply z04;(first|refine z0l ?_| (apply z0a;(refine z02 z18 rfl rfl ?_))|(apply z0d;(refine z02 z1a rfl rfl ?_))|(apply z0j;(refine z3u (zoa (kk:=0) (zmq g a b) c.nodes hc (fun k x _=>zsc c g a b x k 1)) rfl rfl (by decide) ?_))|(apply z1c;(refine z0b z1q ?_))|refine z43 rfl rfl (by decide) ?_))|(apply z05;(first|refine z0k ?_|apply z09))|(apply z06;(first|apply z07|apply z00)))
 all_goals exact z0c Tryz.func103 _ z1j ⟨rfl,rfl⟩
def z6c:List (List D):=[[.lit .nilFunc],[.lit .nilFunc],[.lit .nilFunc],[fnD 97],[fnD 98],[fnD 99],[fnD 100],[fnD 101],[fnD 102],[fnD 103]]
def zmc (c:z0v) (g:Lf) (a b:Int):Bool :=
 if g.op=7 then (up c a).any fun y=>decide (b=y) else if g.op=8 then zrh c g a b else if g.op=9 then c.nodes.any (zmq g a b) else decide ((up c a)[0]? =some b)
theorem zg3 {c:z0v} (hw:Wf c) (g:Lf) (hg:g.args.length≤1000000) {a:Int} (b:Int) (ha:token c a=true) (hc:c.nodes.length≤1000000) (ho:g.op=6∨g.op=7∨g.op=8∨g.op=9):z0m Tryz.prog 73 [scD c g a b] (B (zmc c g a b)):=by
 have h6:g.op=6→z0m Tryz.prog 100 [scD c g a b] (B (zmc c g a b)):=fun e=>by rw[zmc,e];exact zsk hw g b ha
 have h7:g.op=7→z0m Tryz.prog 101 [scD c g a b] (B (zmc c g a b)):=fun e=>by rw[zmc,e];exact zvq hw g b ha
 have h8:g.op=8→z0m Tryz.prog 102 [scD c g a b] (B (zmc c g a b)):=fun e=>by rw[zmc,e];exact zrj hw g hg b ha
 have h9:g.op=9→z0m Tryz.prog 103 [scD c g a b] (B (zmc c g a b)):=fun e=>by rw[zmc,e];exact zrp c g a b hc
 refine z10 fun H=>?_
 refine z0g Tryz.func73 (by kernel_rfl) rfl (by simp) ?_
 dsimp only[Tryz.f73]
 rcases ho with h|h|h|h
 · have hv:z6c[g.op.toNat]? =some [fnD 100]:=by rw[h];rfl
   repeat' (first|(apply z04;(first|refine zbu (ys:=z6c) rfl rfl rfl rfl rfl rfl rfl rfl (by decide) ?_|refine z0l ?_| (apply z1c;(refine z0b z1q ?_))))|(apply z05;(first|refine z0k ?_|apply z09))|(apply z06;(first|apply z07|apply z00|apply z2z))|(apply z2v;(first|(apply z1l;refine z2n mix ?_)|refine z3h ?_| (apply z0u;(first|refine z0w z2c rfl rfl ?_| refine z0w z18 rfl rfl ?_| refine z0w z2p rfl rfl ?_))|(apply z0q;(refine z0w z1a rfl rfl ?_))|(apply z1n;(refine z0w (z1o rfl hv) rfl rfl ?_))|(apply z22;(refine zgu (by first|exact rfl|exact⟨_,rfl,rfl,rfl⟩) rfl (h6 h) rfl (by decide) ?_)))))
   all_goals exact z0c Tryz.func73 _ z1j ⟨rfl,rfl⟩
 · have hv:z6c[g.op.toNat]? =some [fnD 101]:=by rw[h];rfl
   repeat' (first|(apply z04;(first|refine zbu (ys:=z6c) rfl rfl rfl rfl rfl rfl rfl rfl (by decide) ?_|refine z0l ?_| (apply z1c;(refine z0b z1q ?_))))|(apply z05;(first|refine z0k ?_|apply z09))|(apply z06;(first|apply z07|apply z00|apply z2z))|(apply z2v;(first|(apply z1l;refine z2n mix ?_)|refine z3h ?_| (apply z0u;(first|refine z0w z2c rfl rfl ?_| refine z0w z18 rfl rfl ?_| refine z0w z2p rfl rfl ?_))|(apply z0q;(refine z0w z1a rfl rfl ?_))|(apply z1n;(refine z0w (z1o rfl hv) rfl rfl ?_))|(apply z22;(refine zgu (by first|exact rfl|exact⟨_,rfl,rfl,rfl⟩) rfl (h7 h) rfl (by decide) ?_)))))
   all_goals exact z0c Tryz.func73 _ z1j ⟨rfl,rfl⟩
 · have hv:z6c[g.op.toNat]? =some [fnD 102]:=by rw[h];rfl
   repeat' (first|(apply z04;(first|refine zbu (ys:=z6c) rfl rfl rfl rfl rfl rfl rfl rfl (by decide) ?_|refine z0l ?_| (apply z1c;(refine z0b z1q ?_))))|(apply z05;(first|refine z0k ?_|apply z09))|(apply z06;(first|apply z07|apply z00|apply z2z))|(apply z2v;(first|(apply z1l;refine z2n mix ?_)|refine z3h ?_| (apply z0u;(first|refine z0w z2c rfl rfl ?_| refine z0w z18 rfl rfl ?_| refine z0w z2p rfl rfl ?_))|(apply z0q;(refine z0w z1a rfl rfl ?_))|(apply z1n;(refine z0w (z1o rfl hv) rfl rfl ?_))|(apply z22;(refine zgu (by first|exact rfl|exact⟨_,rfl,rfl,rfl⟩) rfl (h8 h) rfl (by decide) ?_)))))
   all_goals exact z0c Tryz.func73 _ z1j ⟨rfl,rfl⟩
 · have hv:z6c[g.op.toNat]? =some [fnD 103]:=by rw[h];rfl
   repeat' (first|(apply z04;(first|refine zbu (ys:=z6c) rfl rfl rfl rfl rfl rfl rfl rfl (by decide) ?_|refine z0l ?_| (apply z1c;(refine z0b z1q ?_))))|(apply z05;(first|refine z0k ?_|apply z09))|(apply z06;(first|apply z07|apply z00|apply z2z))|(apply z2v;(first|(apply z1l;refine z2n mix ?_)|refine z3h ?_| (apply z0u;(first|refine z0w z2c rfl rfl ?_| refine z0w z18 rfl rfl ?_| refine z0w z2p rfl rfl ?_))|(apply z0q;(refine z0w z1a rfl rfl ?_))|(apply z1n;(refine z0w (z1o rfl hv) rfl rfl ?_))|(apply z22;(refine zgu (by first|exact rfl|exact⟨_,rfl,rfl,rfl⟩) rfl (h9 h) rfl (by decide) ?_)))))
   all_goals exact z0c Tryz.func73 _ z1j ⟨rfl,rfl⟩
def zhi (c:z0v) (g:Lf) (i j:Int):Bool:=if g.op=10 then decide (g.mn≤((up c i).length:Int))&&decide (((up c i).length:Int)≤g.mx) else zmc c g i j
end Go.Proofs.YtonhfccmeammbaaGreatDoor
namespace Go.Proofs.YtonhfccmeammbaaGreatDoor
open Go.Ab
set_option maxHeartbeats 20000000
section
variable {P:Program} {f:FuncId} {R:z3x} {k:List Item} {all:Array Oper} {l:List Oper} {n:Nat} {tm:List (Nat × PV)} {hp:Hp} {up:Hf} {d:Nat} {ty:TypeId} {pos:String} {aft:Array Edge} {gd:Option (Nat × Bool)}
theorem zfa (a b:Nat) {q:Blk} (hb:Ab.look hp a=some q) (hab:(!(a == b)&&!q.says (0,b))=true) (h:Ops P f R all l k ⟨n,za3 a b tm,(b,q)::(a,.gone)::zcc a b hp,up⟩):Ops P f R all l k ⟨n,tm,hp,up⟩ :=
 fun is his=>z4x a b hb hab (h is his)
theorem zox {args:List Operand} {ats:Array TypeId} {li:List Int} (hev:St.evs ⟨n,tm,hp,up⟩ args=some [.d (ints li)]) (hl:li.length≤9223372036854775807) (hd:d<n) (hfr:(z1d d hp&&z1h d tm)=true)
 (h:Ops Tryz.prog f R all l k ⟨n,(d,.ptr (0,d) 0)::tm,(d,z2g (li.take 120) 0)::hp,up⟩) :
 Op1 Tryz.prog f R all ⟨some d,.call ⟨.value (.func 9),args.toArray,ats⟩,ty,pos,aft,gd⟩ l k ⟨n,tm,hp,up⟩ :=
 zlh hev (zx5 li hl _) hd hfr fun r H ⟨h1,h2⟩=>⟨_,h1,h2,rfl,rfl,h⟩
end
attribute [local irreducible] Run Ops Op1 z1x Val Tr z0m z1r NF Rel z47 z1u
def sX:Str:=⟨#[120]⟩
end Go.Proofs.YtonhfccmeammbaaGreatDoor
namespace Go.Proofs.YtonhfccmeammbaaGreatDoor
open Go.Ab
set_option maxHeartbeats 20000000
attribute [local irreducible] Run Ops Op1 z1x Val Tr z0m z1r NF Rel
theorem zpf {cf:FuncId} {sl kk:Nat} {blk:Blk} (p:Attr→Bool) (xs:List (Attr)) (hl:xs.length≤1000000) (hcl:∀ k x,x∈xs→z1r Tryz.prog cf [.d (.agg x.cs),.ptr (k,sl) 0] [((k,sl),blk)] [] (B (p x))) :
 z1r Tryz.prog 88 [.d (.slice (xs.map Attr.cs)),.fn (.func cf) [] [.ptr (kk,sl) 0]] [((kk,sl),blk)] [] (I .i64 (z5a p xs 0)):=by
 refine z2h fun H hH=>?_
 have hH0:=hH ((kk,sl),blk) (by simp)
 refine z0g Tryz.func88 (by kernel_rfl) rfl (by simp) ?_
 dsimp only[Tryz.f88]
 repeat' (first|(apply z04;(first|refine z0l ?_| (apply z0x;(refine z02 (z0y rfl) rfl rfl ?_))))|(apply z05;(first|refine z0k ?_|apply z09))|(apply z06;(first|apply z07|apply z00|apply z01)))
 refine z0t ?_
 refine z0e (z1v (fun q:Nat=>⟨19,[(0,.d (.slice (xs.map Attr.cs))),(1,.fn (.func cf) [] [.ptr (kk+1,sl) 0]),(7,I .i64 xs.length),(8,I .i64 (q:Nat))],[],H⟩) (fun q=>q≤xs.length∧z5a p (xs.drop q) q=z5a p xs 0) (fun q=>xs.length-q) ?_ 0 ⟨zAf _,rfl⟩) rfl rfl
 intro k ⟨hk,hi⟩ ih
 by_cases hlt:k<xs.length
 · obtain⟨x,hx⟩:∃ x,xs[k]? =some x:=⟨_,zA0 hlt⟩
   have hm:=zA2 hx
   rw[z4h hx,z5a] at hi
   repeat' (first|(apply z04;(first|refine z0l ?_| (apply z0a;(refine z02 z2j rfl rfl ?_))|(apply z0n;(refine z02 (z1o rfl (idx hx)) rfl rfl ?_))|(apply z0z;(refine z02 (z14 z1p) rfl rfl ?_))|(apply z0j;(refine zhm (first:=[]) (cap:=[.ptr (kk+1,sl) 0]) (ps:=[.d (.agg x.cs)]) (bs:=[((kk+1,sl),blk)]) (hcl (kk+1) x hm) rfl rfl (bk1 hH0) (by decide) ?_))))|(apply z05;(first|refine z0k ?_|apply z09))|(apply z06;(first|apply z07|apply z00|apply z08|apply z01|apply z03|refine z0h (fun _=>?_) (fun _=>?_)| refine z2i rfl (fun _=>?_) (fun _=>?_)|refine z0o ?_)))
   all_goals try (exfalso;omega)
   all_goals first
    | (refine z0c Tryz.func88 _ z1j ⟨?_,rfl⟩;rw[← hi,zAy (by assumption)])
    | exact z0e (ih (k+1) ⟨by omega,by rw[← hi,zAx (by simp_all)]⟩ (by omega)) rfl rfl
 · obtain rfl:k=xs.length:=by omega
   rw[zAr,z5a] at hi
   repeat' (first|(apply z04;(refine z0l ?_))|(apply z05;(first|refine z0k ?_|apply z09))|(apply z06;(first|apply z07|apply z00|apply z08|apply z01|refine z0h (fun _=>?_) (fun _=>?_)| refine z0o ?_)))
   all_goals try (exfalso;omega)
   all_goals exact z0c Tryz.func88 _ z1j ⟨by rw[← hi],rfl⟩
theorem zsf (a:Attr) (x:Str) (k sl:Nat):z1r Tryz.prog 89 [.d (.agg a.cs),.ptr (k,sl) 0] [((k,sl),.box [S x])] [] (B (decide (a.name=x))):=by
 refine z2h fun H hH=>?_
 have hH0:=hH ((k,sl),.box [S x]) (by simp)
 refine z0g Tryz.func89 (by kernel_rfl) rfl (by simp) ?_
 dsimp only[Tryz.f89]
 repeat' (first|(apply z04;(first|refine z0l ?_| (apply z0a;(first|refine z02 (z18 (b:=.box [S x])) rfl (bk1 hH0) ?_| refine z02 z18 rfl rfl ?_))|(apply z0d;(refine z02 z1a rfl rfl ?_))|(apply z1c;(refine z0b z1q ?_))))|(apply z05;(first|refine z0k ?_|apply z09))|(apply z06;(first|apply z07|apply z00)))
 all_goals exact z0c Tryz.func89 _ z1j ⟨rfl,rfl⟩
def z5j (c:z0v) (x:Str):Int:=z5a (fun a:Attr=>decide (a.name=x)) c.attrs 0
theorem ze6 (c:z0v) (x:Str) (hc:c.attrs.length≤1000000):z0m Tryz.prog 61 [.d (.slice (c.attrs.map Attr.cs)),S x] (I .i64 (z5j c x)):=by
 refine z10 fun H=>?_
 refine z0g Tryz.func61 (by kernel_rfl) rfl (by simp) ?_
 dsimp only[Tryz.f61]
 repeat' (first|(apply z04;(first|refine z0l ?_| (apply z0j;(refine z3u (zpf (kk:=0) (fun a=>decide (a.name=x)) c.attrs hc (fun k y _=>zsf y x k 3)) rfl rfl (by decide) ?_))|(apply z1c;(refine z0b z45 ?_))|refine z43 rfl rfl (by decide) ?_))|(apply z05;(first|refine z0k ?_|apply z09))|(apply z06;(first|apply z07|apply z00)))
 all_goals exact z0c Tryz.func61 _ z1j ⟨rfl,rfl⟩
def z6o (c:z0v) (t a:Int):Str:=if t<0∨(c.tokens.length:Int)≤t then ⟨#[]⟩ else if a<0 then ⟨#[]⟩ else match c.tokens[t.toNat]? with
 | some vs=>(vs[a.toNat]?).getD ⟨#[]⟩
 | none=>⟨#[]⟩
theorem znw (c:z0v) (t a:Int):z0m Tryz.prog 96 [c.d,I .i64 t,I .i64 a] (S (z6o c t a)):=by
 refine z10 fun H=>?_
 refine z0g Tryz.func96 (by kernel_rfl) rfl (by simp) ?_
 dsimp only[Tryz.f96]
 by_cases ht:t<0∨(c.tokens.length:Int)≤t
 · have hv:z6o c t a=⟨#[]⟩:=by rw[z6o,zAy ht]
   all_goals exact zD17
 · obtain⟨vs,hvs⟩:∃ x,c.tokens[t.toNat]? =some x:=⟨_,zA0 (by omega)⟩
   by_cases ha:a<0
   · have hv:z6o c t a=⟨#[]⟩:=by rw[z6o,zAx ht,zAy ha]
     all_goals exact zD17
   · have hv:z6o c t a=(vs[a.toNat]?).getD ⟨#[]⟩:=by rw[z6o,zAx ht,zAx ha,hvs]
     cases hx:vs[a.toNat]? with
     | none =>
      rw[hx] at hv
      have:=List.getElem?_eq_none_iff.1 hx
      repeat' (first|(apply z04;(first|refine z0l ?_| (apply z0a;(first|refine z02 z18 rfl rfl ?_| refine z02 z2p rfl rfl ?_))|(apply z0d;(refine z02 z1a rfl rfl ?_))|(apply z0n;(refine z02 (z1o rfl (z6u hvs)) rfl rfl ?_))|(apply z0x;(refine z02 (z0y rfl) rfl rfl ?_))|(apply z1c;(refine z0b z1q ?_))))|(apply z05;(first|refine z0k ?_|apply z09|refine z1m ?_| refine z1t (fun _=>?_) (fun _=>?_)))|(apply z06;(first|apply z07|apply z00|refine z1b rfl ?_|apply z08|refine z0h (fun _=>?_) (fun _=>?_))))
      all_goals try (exfalso;omega)
      all_goals exact z0c Tryz.func96 _ z1j ⟨by rw[hv];rfl,rfl⟩
     | some x =>
      rw[hx] at hv
      have:=(zA1.1 hx).1
      repeat' (first|(apply z04;(first|refine z0l ?_| (apply z0a;(first|refine z02 z18 rfl rfl ?_| refine z02 z2p rfl rfl ?_))|(apply z0d;(refine z02 z1a rfl rfl ?_))|(apply z0n;(first|refine z02 (z1o rfl (z6u hvs)) rfl rfl ?_| refine z02 (z1o rfl (z6u hx)) rfl rfl ?_))|(apply z0x;(refine z02 (z0y rfl) rfl rfl ?_))|(apply z1c;(refine z0b z1q ?_))))|(apply z05;(first|refine z0k ?_|apply z09|refine z1m ?_| refine z1t (fun _=>?_) (fun _=>?_)))|(apply z06;(first|apply z07|apply z00|refine z1b rfl ?_|apply z08|refine z0h (fun _=>?_) (fun _=>?_))))
      all_goals try (exfalso;omega)
      all_goals exact z0c Tryz.func96 _ z1j ⟨by rw[hv];rfl,rfl⟩
theorem zel (c:z0v) (t:Int) (x:Str) (hc:c.attrs.length≤1000000):z0m Tryz.prog 71 [c.d,I .i64 t,S x] (S (z6o c t (z5j c x))):=by
 refine z10 fun H=>?_
 refine z0g Tryz.func71 (by kernel_rfl) rfl (by simp) ?_
 dsimp only[Tryz.f71]
 repeat' (first|(apply z04;(first|refine z0l ?_| (apply z1c;(refine z0b z1q ?_))))|(apply z05;(first|refine z0k ?_|apply z09))|(apply z06;(first|apply z07|apply z00|apply z2z))|(apply z2v;(first|(apply z1l;refine z2n mix ?_)|refine z3h ?_| (apply z0u;(first|refine z0w z2c rfl rfl ?_| refine z0w z18 rfl rfl ?_))|(apply z0q;(refine z0w z1a rfl rfl ?_))|(apply z22;(first|refine z5f (ze6 c x hc) ?_| refine z5f (znw c t (z5j c x)) ?_)))))
 all_goals exact z0c Tryz.func71 _ z1j ⟨rfl,rfl⟩
structure Lp where
 op:Int
 a:Str
 b:Str
 name:Str
 arg:Str
 mn:Int
 mx:Int
def Lp.cs (g:Lp):List D:=[z3c g.op,z5p g.a,z5p g.b,z5p g.name,z5p g.arg,z5p ⟨#[]⟩,zhk false,z3c g.mn,z3c g.mx,strs [],.slice []]
abbrev Lp.d (g:Lp):PV:=.d (.agg g.cs)
structure zz3 (g:Lp):Prop where
 op:g.op=3∨g.op=4
 h3:g.op=3→g.mn=0∧g.mx=0
 h4:g.op=4→g.name=⟨#[]⟩∧g.arg=⟨#[]⟩
abbrev spD (c:z0v) (g:Lp) (a b:Int):PV:=.d (.agg (c.cs++g.cs++[z3c a,z3c b]))
def zu1 (c:z0v) (g:Lp) (a b:Int):Bool:=if g.op=3 then decide (z6o c a (z5j c g.name)=z6o c b (z5j c g.arg)) else decide (g.mn≤b-a)&&decide (b-a≤g.mx)
theorem zr5 (c:z0v) (g:Lp) (a b:Int) (hc:c.attrs.length≤1000000):z0m Tryz.prog 97 [spD c g a b] (B (decide (z6o c a (z5j c g.name)=z6o c b (z5j c g.arg)))):=by
 refine z10 fun H=>?_
 refine z0g Tryz.func97 (by kernel_rfl) rfl (by simp) ?_
 dsimp only[Tryz.f97]
 repeat' (first|(apply z04;(first|refine z0l ?_| (apply z1c;(refine z0b z1q ?_))))|(apply z05;(first|refine z0k ?_|apply z09))|(apply z06;(first|apply z07|apply z00|apply z2z))|(apply z2v;(first|(apply z1l;refine z2n mix ?_)|refine z3h ?_| (apply z0u;(first|refine z0w z18 rfl rfl ?_| refine z0w z2a rfl rfl ?_))|(apply z0q;(refine z0w z1a rfl rfl ?_))|(apply z22;(first|refine z5f (zel c a g.name hc) ?_| refine z5f (zel c b g.arg hc) ?_)))))
 all_goals exact z0c Tryz.func97 _ z1j ⟨rfl,rfl⟩
theorem zru (c:z0v) (g:Lp) (a b:Int) (ha:-1≤a∧a≤1000000) (hb:-1≤b∧b≤1000000):z0m Tryz.prog 98 [spD c g a b] (B (decide (g.mn≤b-a)&&decide (b-a≤g.mx))):=by
 refine z10 fun H=>?_
 refine z0g Tryz.func98 (by kernel_rfl) rfl (by simp) ?_
 dsimp only[Tryz.f98]
 repeat' (first|(apply z04;(first|refine z0l ?_| (apply z0a;(refine z02 z18 rfl rfl ?_))|(apply z0d;(refine z02 z1a rfl rfl ?_))|(apply z0z;(refine z02 (z2q z1p) rfl rfl ?_))|(apply z1c;(refine z0b z1q ?_))))|(apply z05;(first|refine z0k ?_|apply z09|refine z1m ?_| refine z1t (fun _=>?_) (fun _=>?_)))|(apply z06;(first|apply z07|apply z00)))
 all_goals exact z0c Tryz.func98 _ z1j ⟨by first|(rw[zAi (p:=g.mn≤b-a) (by assumption)];rfl)|(rw[zAn (p:=g.mn≤b-a) (by assumption)];rfl),rfl⟩
theorem zjn (c:z0v) (g:Lp) (h:zz3 g) (a b:Int) (hc:c.attrs.length≤1000000) (ha:-1≤a∧a≤1000000) (hb:-1≤b∧b≤1000000):z0m Tryz.prog 73 [spD c g a b] (B (zu1 c g a b)):=by
 have h3:g.op=3→z0m Tryz.prog 97 [spD c g a b] (B (zu1 c g a b)):=fun e=>by rw[zu1,e];exact zr5 c g a b hc
 have h4:g.op=4→z0m Tryz.prog 98 [spD c g a b] (B (zu1 c g a b)):=fun e=>by rw[zu1,e];exact zru c g a b ha hb
 refine z10 fun H=>?_
 refine z0g Tryz.func73 (by kernel_rfl) rfl (by simp) ?_
 dsimp only[Tryz.f73]
 rcases h.op with h|h
 · have hv:z6c[g.op.toNat]? =some [fnD 97]:=by rw[h];rfl
   repeat' (first|(apply z04;(first|refine zbu (ys:=z6c) rfl rfl rfl rfl rfl rfl rfl rfl (by decide) ?_|refine z0l ?_| (apply z1c;(refine z0b z1q ?_))))|(apply z05;(first|refine z0k ?_|apply z09))|(apply z06;(first|apply z07|apply z00|apply z2z))|(apply z2v;(first|(apply z1l;refine z2n mix ?_)|refine z3h ?_| (apply z0u;(first|refine z0w z2c rfl rfl ?_| refine z0w z18 rfl rfl ?_| refine z0w z2p rfl rfl ?_))|(apply z0q;(refine z0w z1a rfl rfl ?_))|(apply z1n;(refine z0w (z1o rfl hv) rfl rfl ?_))|(apply z22;(refine zgu (by first|exact rfl|exact⟨_,rfl,rfl,rfl⟩) rfl (h3 h) rfl (by decide) ?_)))))
   all_goals exact z0c Tryz.func73 _ z1j ⟨rfl,rfl⟩
 · have hv:z6c[g.op.toNat]? =some [fnD 98]:=by rw[h];rfl
   repeat' (first|(apply z04;(first|refine zbu (ys:=z6c) rfl rfl rfl rfl rfl rfl rfl rfl (by decide) ?_|refine z0l ?_| (apply z1c;(refine z0b z1q ?_))))|(apply z05;(first|refine z0k ?_|apply z09))|(apply z06;(first|apply z07|apply z00|apply z2z))|(apply z2v;(first|(apply z1l;refine z2n mix ?_)|refine z3h ?_| (apply z0u;(first|refine z0w z2c rfl rfl ?_| refine z0w z18 rfl rfl ?_| refine z0w z2p rfl rfl ?_))|(apply z0q;(refine z0w z1a rfl rfl ?_))|(apply z1n;(refine z0w (z1o rfl hv) rfl rfl ?_))|(apply z22;(refine zgu (by first|exact rfl|exact⟨_,rfl,rfl,rfl⟩) rfl (h4 h) rfl (by decide) ?_)))))
   all_goals exact z0c Tryz.func73 _ z1j ⟨rfl,rfl⟩
end Go.Proofs.YtonhfccmeammbaaGreatDoor
