/- A part. -/
import Derived.Test.YtonhfccmeammbaaGreatDoorVTG
set_option linter.all false
open Go.Proofs.Tryz
set_option maxRecDepth 100000
namespace Go.Proofs.YtonhfccmeammbaaGreatDoor
open Go.Ab
set_option maxHeartbeats 20000000
attribute [local irreducible] Run Ops Op1 z1z Val Tr z0q z1v NF Rel
def z5a{α:Type}(p:α→Bool):List α→Nat→Int
 | [],_=> -1
 | x::r,k=>if p x then(k:Int)else z5a p r (k+1)
theorem z8c{α:Type}(p:α→Bool):∀(l:List α) (k:Nat),decide (0≤z5a p l k)=l.any p
 | [],k=>rfl
 | x::r,k=>by
  have ih:=z8c p r (k+1)
  by_cases h:p x=true
  ·simp[z5a,h]
  ·simp only[Bool.not_eq_true]at h
   simp only[List.any_cons,h,Bool.false_or,←ih]
   simp[z5a,h]
theorem zf7{α:Type}(p:α→Bool):∀(l:List α) (k:Nat),z5a p l k=-1∨((k:Int)≤z5a p l k∧z5a p l k<k+l.length)
 | [],k=>.inl rfl
 | x::r,k=>by
  simp only[z5a,zAk]
  by_cases h:p x=true
  ·rw[zAz h];right;omega
  ·rw[zAy h]
   rcases zf7 p r (k+1)with e|e
   ·exact .inl e
   ·right;omega
theorem z3d{α:Type}{l:List α}{k:Nat}{x:α}(h:l[k]? =some x):l.drop k=x::l.drop (k+1):=by
 have hk:=(zA1.1 h)
 rw[List.drop_eq_getElem_cons hk.1,hk.2]
theorem zz5{cf:FuncId}{sl kk:Nat}{blk:Blk}(p:Int→Bool)(xs:List (Int))(hl:xs.length≤1000000)(hcl:∀k x,x∈xs→z1v prog cf [.d (z2g x),.ptr (k,sl) 0] [((k,sl),blk)] [] (B (p x))) :
 z1v prog 92 [.d (ints xs),.fn (.func cf) [] [.ptr (kk,sl) 0]] [((kk,sl),blk)] [] (I .i64 (z5a p xs 0)):=by
 refine z2a fun H hH=>?_
 have hH0:=hH ((kk,sl),blk) (by simp)
 refine z0g func92 (by kernel_rfl) rfl (by simp) ?_
 dsimp only[f92]
 repeat' first|(apply z05;first|refine z0n ?_| (apply z0s;refine z02 (z0w rfl) rfl rfl ?_))|(apply z06;first|refine z0m ?_|apply z09)|(apply z07;first|apply z08|apply z00|apply z01)
 refine z0r ?_
 refine z0d (z1o (fun q:Nat=>⟨19,[(0,.d (ints xs)),(1,.fn (.func cf) [] [.ptr (kk+1,sl) 0]),(7,I .i64 xs.length),(8,I .i64 (q:Nat))],[],H⟩) (fun q=>q≤xs.length∧z5a p (xs.drop q) q=z5a p xs 0) (fun q=>xs.length-q) ?_ 0 ⟨zAf _,rfl⟩) rfl rfl
 intro k ⟨hk,hi⟩ ih
 by_cases hlt:k<xs.length
 ·obtain⟨x,hx⟩:∃x,xs[k]? =some x:=⟨_,zA0 hlt⟩
  have hm:=zA2 hx
  rw[z3d hx,z5a]at hi
  repeat' first|(apply z05;first|refine z0n ?_| (apply z0a;refine z02 z2f rfl rfl ?_)|(apply z0k;refine z02 (z1a rfl (idx hx)) rfl rfl ?_)|(apply z0t;refine z02 (z0z z1h) rfl rfl ?_)|(apply z0j;refine zkx (first:=[]) (cap:=[.ptr (kk+1,sl) 0]) (ps:=[.d (z2g x)]) (bs:=[((kk+1,sl),blk)]) (hcl (kk+1) x hm) rfl rfl (bk1 hH0) (by decide) ?_))|(apply z06;first|refine z0m ?_|apply z09)|(apply z07;first|apply z08|apply z00|apply z04|apply z01|apply z03|refine z0h (fun _=>?_) (fun _=>?_)| refine z2q rfl (fun _=>?_) (fun _=>?_)|refine z0o ?_)
  all_goals try omega
  all_goals first
   | (refine z0e func92 _ z0p ⟨?_,rfl⟩;rw[←hi,zAz (by assumption)])
   | exact z0d (ih (k+1) ⟨by omega,by rw[←hi,zAy (by simp_all)]⟩ (by omega)) rfl rfl
 ·obtain rfl:k=xs.length:=by omega
  rw[zAs,z5a]at hi
  repeat' first|(apply z05;refine z0n ?_)|(apply z06;first|refine z0m ?_|apply z09)|(apply z07;first|apply z08|apply z00|apply z04|apply z01|refine z0h (fun _=>?_) (fun _=>?_)| refine z0o ?_)
  all_goals try omega
  all_goals exact z0e func92 _ z0p ⟨by rw[←hi],rfl⟩
theorem zxd{cf:FuncId}{sl kk:Nat}{blk:Blk}(p:Int→Bool)(xs:List (Int))(hl:xs.length≤1000000)(hcl:∀k x,x∈xs→z1v prog cf [.d (z2g x),.ptr (k,sl) 0] [((k,sl),blk)] [] (B (p x))) :
 z1v prog 65 [.d (ints xs),.fn (.func cf) [] [.ptr (kk,sl) 0]] [((kk,sl),blk)] [] (B (xs.any p)):=by
 refine z2a fun H hH=>?_
 have hH0:=hH ((kk,sl),blk) (by simp)
 refine z0g func65 (by kernel_rfl) rfl (by simp) ?_
 dsimp only[f65]
 repeat' first|(apply z05;first|refine z0n ?_| (apply z0j;refine z4g (zz5 (kk:=kk+1) p xs hl hcl) rfl (bk1 hH0) (by decide) ?_))|(apply z06;first|refine z0m ?_|apply z09)|(apply z07;first|apply z08|apply z00)
 all_goals exact z0e func65 _ z0p ⟨by rw[←z8c p xs 0],rfl⟩
theorem zsm{cf:FuncId}{sl kk:Nat}{blk:Blk}(p:Node→Bool)(xs:List (Node))(hl:xs.length≤1000000)(hcl:∀k x,x∈xs→z1v prog cf [.d (.agg x.cs),.ptr (k,sl) 0] [((k,sl),blk)] [] (B (p x))) :
 z1v prog 157 [.d (.slice (xs.map Node.cs)),.fn (.func cf) [] [.ptr (kk,sl) 0]] [((kk,sl),blk)] [] (I .i64 (z5a p xs 0)):=by
 refine z2a fun H hH=>?_
 have hH0:=hH ((kk,sl),blk) (by simp)
 refine z0g func157 (by kernel_rfl) rfl (by simp) ?_
 dsimp only[f157]
 repeat' first|(apply z05;first|refine z0n ?_| (apply z0s;refine z02 (z0w rfl) rfl rfl ?_))|(apply z06;first|refine z0m ?_|apply z09)|(apply z07;first|apply z08|apply z00|apply z01)
 refine z0r ?_
 refine z0d (z1o (fun q:Nat=>⟨19,[(0,.d (.slice (xs.map Node.cs))),(1,.fn (.func cf) [] [.ptr (kk+1,sl) 0]),(7,I .i64 xs.length),(8,I .i64 (q:Nat))],[],H⟩) (fun q=>q≤xs.length∧z5a p (xs.drop q) q=z5a p xs 0) (fun q=>xs.length-q) ?_ 0 ⟨zAf _,rfl⟩) rfl rfl
 intro k ⟨hk,hi⟩ ih
 by_cases hlt:k<xs.length
 ·obtain⟨x,hx⟩:∃x,xs[k]? =some x:=⟨_,zA0 hlt⟩
  have hm:=zA2 hx
  rw[z3d hx,z5a]at hi
  repeat' first|(apply z05;first|refine z0n ?_| (apply z0a;refine z02 z1w rfl rfl ?_)|(apply z0k;refine z02 (z1a rfl (idx hx)) rfl rfl ?_)|(apply z0t;refine z02 (z0z z1h) rfl rfl ?_)|(apply z0j;refine zkx (first:=[]) (cap:=[.ptr (kk+1,sl) 0]) (ps:=[.d (.agg x.cs)]) (bs:=[((kk+1,sl),blk)]) (hcl (kk+1) x hm) rfl rfl (bk1 hH0) (by decide) ?_))|(apply z06;first|refine z0m ?_|apply z09)|(apply z07;first|apply z08|apply z00|apply z04|apply z01|apply z03|refine z0h (fun _=>?_) (fun _=>?_)| refine z2q rfl (fun _=>?_) (fun _=>?_)|refine z0o ?_)
  all_goals try omega
  all_goals first
   | (refine z0e func157 _ z0p ⟨?_,rfl⟩;rw[←hi,zAz (by assumption)])
   | exact z0d (ih (k+1) ⟨by omega,by rw[←hi,zAy (by simp_all)]⟩ (by omega)) rfl rfl
 ·obtain rfl:k=xs.length:=by omega
  rw[zAs,z5a]at hi
  repeat' first|(apply z05;refine z0n ?_)|(apply z06;first|refine z0m ?_|apply z09)|(apply z07;first|apply z08|apply z00|apply z04|apply z01|refine z0h (fun _=>?_) (fun _=>?_)| refine z0o ?_)
  all_goals try omega
  all_goals exact z0e func157 _ z0p ⟨by rw[←hi],rfl⟩
theorem zvb{cf:FuncId}{sl kk:Nat}{blk:Blk}(p:Node→Bool)(xs:List (Node))(hl:xs.length≤1000000)(hcl:∀k x,x∈xs→z1v prog cf [.d (.agg x.cs),.ptr (k,sl) 0] [((k,sl),blk)] [] (B (p x))) :
 z1v prog 129 [.d (.slice (xs.map Node.cs)),.fn (.func cf) [] [.ptr (kk,sl) 0]] [((kk,sl),blk)] [] (B (xs.any p)):=by
 refine z2a fun H hH=>?_
 have hH0:=hH ((kk,sl),blk) (by simp)
 refine z0g func129 (by kernel_rfl) rfl (by simp) ?_
 dsimp only[f129]
 repeat' first|(apply z05;first|refine z0n ?_| (apply z0j;refine z4g (zsm (kk:=kk+1) p xs hl hcl) rfl (bk1 hH0) (by decide) ?_))|(apply z06;first|refine z0m ?_|apply z09)|(apply z07;first|apply z08|apply z00)
 all_goals exact z0e func129 _ z0p ⟨by rw[←z8c p xs 0],rfl⟩
theorem y00{cf:FuncId}{sl kk:Nat}{blk:Blk}(p:Region→Bool)(xs:List (Region))(hl:xs.length≤1000000)(hcl:∀k x,x∈xs→z1v prog cf [.d (.agg x.cs),.ptr (k,sl) 0] [((k,sl),blk)] [] (B (p x))) :
 z1v prog 156 [.d (.slice (xs.map Region.cs)),.fn (.func cf) [] [.ptr (kk,sl) 0]] [((kk,sl),blk)] [] (I .i64 (z5a p xs 0)):=by
 refine z2a fun H hH=>?_
 have hH0:=hH ((kk,sl),blk) (by simp)
 refine z0g func156 (by kernel_rfl) rfl (by simp) ?_
 dsimp only[f156]
 repeat' first|(apply z05;first|refine z0n ?_| (apply z0s;refine z02 (z0w rfl) rfl rfl ?_))|(apply z06;first|refine z0m ?_|apply z09)|(apply z07;first|apply z08|apply z00|apply z01)
 refine z0r ?_
 refine z0d (z1o (fun q:Nat=>⟨19,[(0,.d (.slice (xs.map Region.cs))),(1,.fn (.func cf) [] [.ptr (kk+1,sl) 0]),(7,I .i64 xs.length),(8,I .i64 (q:Nat))],[],H⟩) (fun q=>q≤xs.length∧z5a p (xs.drop q) q=z5a p xs 0) (fun q=>xs.length-q) ?_ 0 ⟨zAf _,rfl⟩) rfl rfl
 intro k ⟨hk,hi⟩ ih
 by_cases hlt:k<xs.length
 ·obtain⟨x,hx⟩:∃x,xs[k]? =some x:=⟨_,zA0 hlt⟩
  have hm:=zA2 hx
  rw[z3d hx,z5a]at hi
  repeat' first|(apply z05;first|refine z0n ?_| (apply z0a;refine z02 z1w rfl rfl ?_)|(apply z0k;refine z02 (z1a rfl (idx hx)) rfl rfl ?_)|(apply z0t;refine z02 (z0z z1h) rfl rfl ?_)|(apply z0j;refine zkx (first:=[]) (cap:=[.ptr (kk+1,sl) 0]) (ps:=[.d (.agg x.cs)]) (bs:=[((kk+1,sl),blk)]) (hcl (kk+1) x hm) rfl rfl (bk1 hH0) (by decide) ?_))|(apply z06;first|refine z0m ?_|apply z09)|(apply z07;first|apply z08|apply z00|apply z04|apply z01|apply z03|refine z0h (fun _=>?_) (fun _=>?_)| refine z2q rfl (fun _=>?_) (fun _=>?_)|refine z0o ?_)
  all_goals try omega
  all_goals first
   | (refine z0e func156 _ z0p ⟨?_,rfl⟩;rw[←hi,zAz (by assumption)])
   | exact z0d (ih (k+1) ⟨by omega,by rw[←hi,zAy (by simp_all)]⟩ (by omega)) rfl rfl
 ·obtain rfl:k=xs.length:=by omega
  rw[zAs,z5a]at hi
  repeat' first|(apply z05;refine z0n ?_)|(apply z06;first|refine z0m ?_|apply z09)|(apply z07;first|apply z08|apply z00|apply z04|apply z01|refine z0h (fun _=>?_) (fun _=>?_)| refine z0o ?_)
  all_goals try omega
  all_goals exact z0e func156 _ z0p ⟨by rw[←hi],rfl⟩
theorem y0q{cf:FuncId}{sl kk:Nat}{blk:Blk}(p:Region→Bool)(xs:List (Region))(hl:xs.length≤1000000)(hcl:∀k x,x∈xs→z1v prog cf [.d (.agg x.cs),.ptr (k,sl) 0] [((k,sl),blk)] [] (B (p x))) :
 z1v prog 126 [.d (.slice (xs.map Region.cs)),.fn (.func cf) [] [.ptr (kk,sl) 0]] [((kk,sl),blk)] [] (B (xs.any p)):=by
 refine z2a fun H hH=>?_
 have hH0:=hH ((kk,sl),blk) (by simp)
 refine z0g func126 (by kernel_rfl) rfl (by simp) ?_
 dsimp only[f126]
 repeat' first|(apply z05;first|refine z0n ?_| (apply z0j;refine z4g (y00 (kk:=kk+1) p xs hl hcl) rfl (bk1 hH0) (by decide) ?_))|(apply z06;first|refine z0m ?_|apply z09)|(apply z07;first|apply z08|apply z00)
 all_goals exact z0e func126 _ z0p ⟨by rw[←z8c p xs 0],rfl⟩
structure zsw(g:Lf):Prop where
 op:g.op=6∨g.op=7∨g.op=8∨g.op=9∨g.op=10
 h1:g.op≠9→g.name=⟨#[]⟩
 h2:g.op≠10→g.mn=0∧g.mx=0
 h3:g.op≠8→g.args=[]
 h4:g.op=10→g.b=⟨#[]⟩
 hl:g.args.length≤1000000
theorem zyb(g:Lf)(h:zsw g):z0q prog 59 [g.d,.fn (.func 60) [] []] (B true):=by
 refine z0y fun H=>?_
 refine z0g func59 (by kernel_rfl) rfl (by simp) ?_
 dsimp only[f59]
 repeat' first|(apply z05;first|refine z0n ?_| (apply z0a;first|refine z02 z1r rfl rfl ?_| refine z02 z16 rfl rfl ?_)|(apply z0c;refine z02 z0i rfl rfl ?_)|(apply z0j;first|refine zs4 (first:=[]) (cap:=[]) (ps:=[g.d]) (y0n g h.op h.h1 h.h2 h.h3 h.h4 h.hl) rfl rfl (by decide) ?_|refine z29 (zmx _) ?_)|(apply z18;refine z0b z43 ?_)|refine z4x rfl rfl (by decide) ?_)|(apply z06;first|refine z0m ?_|apply z09)|(apply z07;first|apply z08|apply z00)
 all_goals first
  | exact z0e func59 _ z0p ⟨rfl,rfl⟩
  | (exfalso;simp_all;done)
theorem y0c(g:Lf)(h:zsw g):z0q prog 29 [g.d] (B true):=by
 have hop:g.op≠0:=by have:=h.op;omega
 refine z0y fun H=>?_
 refine z0g func29 (by kernel_rfl) rfl (by simp) ?_
 dsimp only[f29]
 repeat' first|(apply z05;first|refine z0n ?_| (apply z0a;refine z02 z1r rfl rfl ?_)|(apply z0j;first|refine z29 (y2x g hop) ?_| refine z29 (zrg g) ?_| refine z29 (zyb g h) ?_)|(apply z18;refine z0b z1m ?_))|(apply z06;first|refine z0m ?_|apply z09)|(apply z07;first|apply z08|apply z00|refine z15 ?_| apply z04)
 all_goals first
  | exact z0e func29 _ z0p ⟨rfl,rfl⟩
  | (exfalso;simp_all;done)
theorem znx(c:z10)(g:Lf)(h:zsw g):z0q prog 30 [c.d,g.d] (B true):=by
 have hop:g.op≠2∧g.op≠3:=by have:=h.op;omega
 refine z0y fun H=>?_
 refine z0g func30 (by kernel_rfl) rfl (by simp) ?_
 dsimp only[f30]
 repeat' first|(apply z05;first|refine z0n ?_| (apply z0a;refine z02 z16 rfl rfl ?_)|(apply z0c;refine z02 z0i rfl rfl ?_)|(apply z0j;refine z29 (zmx _) ?_)|(apply z18;refine z0b z1m ?_)|refine z4x rfl rfl (by decide) ?_)|(apply z06;first|refine z0m ?_|apply z09)|(apply z07;first|apply z08|apply z00|apply z04|apply z01|apply z03|refine z0h (fun _=>?_) fun _=>?_)
 all_goals first
  | omega
  | exact z0e func30 _ z0p ⟨rfl,rfl⟩
  | (exfalso;simp_all;done)
def zsf(c:z10)(t:Int):Bool:=decide (t< -1)||decide ((c.tokens.length:Int)≤t)
theorem zzl(c:z10)(t:Int)(k sl:Nat)(hc:c.tokens.length≤1000000):z1v prog 66 [.d (z2g t),.ptr (k,sl) 0] [((k,sl),.box (c.cs.map .d))] [] (B (zsf c t)):=by
 refine z2a fun H hH=>?_
 have hH0:=hH ((k,sl),.box (c.cs.map .d)) (by simp)
 refine z0g func66 (by kernel_rfl) rfl (by simp) ?_
 dsimp only[f66]
 repeat' first|(apply z05;first|refine z0n ?_| (apply z0a;refine z02 (z16 (b:=.box (c.cs.map .d))) rfl (bk1 hH0) ?_)|(apply z0c;refine z02 z0i rfl rfl ?_)|(apply z0s;refine z02 (z0w rfl) rfl rfl ?_))|(apply z06;first|refine z0m ?_|apply z09|refine z1g ?_| refine z1p (fun _=>?_) fun _=>?_)|(apply z07;first|apply z08|apply z00)
 all_goals first
  | (refine z0e func66 _ z0p ⟨?_,rfl⟩;unfold zsf;simp_all;done)
  | (refine z0e func66 _ z0p ⟨?_,rfl⟩;rw[show zsf c t=decide ((c.tokens.length:Int)≤t)from by unfold zsf;rw[zAo (p:=t< -1) (by assumption),Bool.false_or]])
abbrev z9m(b e:Int)(ls:List Int):PV:=.d (.agg [z2g b,z2g e,ints ls])
theorem zw3(c:z10)(labs:List Str)(b e:Int)(ls:List Int)(hc:c.tokens.length≤1000000)(hl:ls.length≤1000000)(hn:labs.length≤1000000)(hll:ls.length=labs.length):z0q prog 31 [c.d,.d (strs labs),z9m b e ls] (B (!ls.any (zsf c))):=by
 refine z0y fun H=>?_
 refine z0g func31 (by kernel_rfl) rfl (by simp) ?_
 dsimp only[f31]
 repeat' first|(apply z05;first|refine z0n ?_| (apply z0a;refine z02 z16 rfl rfl ?_)|(apply z0c;refine z02 z0i rfl rfl ?_)|(apply z0s;refine z02 (z0w rfl) rfl rfl ?_)|(apply z0j;refine z4g (zxd (kk:=0) (zsf c) ls hl fun k x _=>zzl c x k 3 hc) rfl rfl (by decide) ?_)|(apply z18;refine z0b z1m ?_)|refine z4x rfl rfl (by decide) ?_)|(apply z06;first|refine z0m ?_|apply z09|refine z1g ?_| refine z1p (fun _=>?_) fun _=>?_)|(apply z07;first|apply z08|apply z00)
 all_goals first
  | omega
  | exact z0e func31 _ z0p ⟨rfl,rfl⟩
theorem zm2(l:List Str)(x:Str)(hl:l.length≤1000000):z0q prog 93 [.d (strs l),S x] (I .i64 (z5a (fun y=>decide (x=y)) l 0)):=by
 refine z0y fun H=>?_
 refine z0g func93 (by kernel_rfl) rfl (by simp) ?_
 dsimp only[f93]
 repeat' first|(apply z05;first|refine z0n ?_| (apply z0s;refine z02 (z0w rfl) rfl rfl ?_))|(apply z06;first|refine z0m ?_|apply z09)|(apply z07;first|apply z08|apply z00|apply z01)
 refine z0r ?_
 refine z0d (z1o (fun q:Nat=>⟨19,[(0,.d (strs l)),(1,S x),(7,I .i64 l.length),(8,I .i64 (q:Nat))],[],H⟩) (fun q=>q≤l.length∧z5a (fun y=>decide (x=y)) (l.drop q) q=z5a (fun y=>decide (x=y)) l 0) (fun q=>l.length-q) ?_ 0 ⟨zAf _,rfl⟩) rfl rfl
 intro k ⟨hk,hi⟩ ih
 by_cases hlt:k<l.length
 ·obtain⟨y,hy⟩:∃x,l[k]? =some x:=⟨_,zA0 hlt⟩
  rw[z3d hy,z5a]at hi
  repeat' first|(apply z05;first|refine z0n ?_| (apply z0a;refine z02 z2f rfl rfl ?_)|(apply z0k;refine z02 (z1a rfl (idx hy)) rfl rfl ?_)|(apply z0t;refine z02 (z0z z1h) rfl rfl ?_))|(apply z06;first|refine z0m ?_|apply z09)|(apply z07;first|apply z08|apply z00|apply z04|apply z01|apply z03|refine z0h (fun _=>?_) (fun _=>?_)| refine z0o ?_)
  all_goals try omega
  all_goals first
   | (refine z0e func93 _ z0p ⟨?_,rfl⟩;rw[←hi,zAz (by simp_all)])
   | exact z0d (ih (k+1) ⟨by omega,by rw[←hi,zAy (by simp_all)]⟩ (by omega)) rfl rfl
 ·obtain rfl:k=l.length:=by omega
  rw[zAs,z5a]at hi
  repeat' first|(apply z05;refine z0n ?_)|(apply z06;first|refine z0m ?_|apply z09)|(apply z07;first|apply z08|apply z00|apply z04|apply z01|refine z0h (fun _=>?_) (fun _=>?_)| refine z0o ?_)
  all_goals try omega
  all_goals exact z0e func93 _ z0p ⟨by rw[←hi],rfl⟩
def z2i:List Str:=[⟨#[120]⟩,⟨#[121]⟩]
theorem zhx(b e i j:Int):z0q prog 69 [.d (strs z2i),z9m b e [i,j],S ⟨#[120]⟩] (I .i64 i):=by
 have hx:z0q prog 93 [.d (strs z2i),S ⟨#[120]⟩] (I .i64 0):=zm2 z2i ⟨#[120]⟩ (by decide)
 have hv:([i,j]:List Int)[(0:Int).toNat]? =some i:=rfl
 exact zD18
theorem zlf(b e i j:Int):z0q prog 69 [.d (strs z2i),z9m b e [i,j],S ⟨#[121]⟩] (I .i64 j):=by
 have hx:z0q prog 93 [.d (strs z2i),S ⟨#[121]⟩] (I .i64 1):=zm2 z2i ⟨#[121]⟩ (by decide)
 have hv:([i,j]:List Int)[(1:Int).toNat]? =some j:=rfl
 exact zD18
def z6a(c:z10)(a:Int)(k:Nat):List Str:=((way c a).take k).map (zha c)
theorem zd7{c:z10}(h:Wf c){a:Int}(ha:token c a=true){k:Nat}{t:Int}(ht:(way c a)[k]? =some t):(up c a).drop k=up c t∧token c t=true:=by
 have e:=zlt h k a ha t ht
 refine⟨?_,zq6 h ha t (zA2 ht)⟩
 have:=congrArg (List.drop 1) e
 rw[List.drop_drop]at this
 simpa[way]using this
theorem zl0(c:z10)(a:Int)(k:Nat):(way c a)[k+1]? =(up c a)[k]?:=by simp[way]
theorem zoi{c:z10}(hw:Wf c){a:Int}(ha:token c a=true):z0q prog 72 [c.d,I .i64 a] (.tup [.d (ints (up c a)),.d (strs (z6a c a (up c a).length))]):=by
 have htok:=hw.tok
 have hul:=z9w c a
 have hlen:(way c a).length=(up c a).length+1:=rfl
 have hrl:=hw.rel
 have hhd:=hw.hd
 refine z0y fun H=>?_
 refine z0g func72 (by kernel_rfl) rfl (by simp) ?_
 dsimp only[f72]
 repeat' first|(apply z05;first|refine z5f rfl rfl rfl (by decide) ?_|(apply z18;refine z0b z1m ?_))|(apply z06;first|refine z0m ?_|apply z09)|(apply z07;first|apply z08|apply z00|apply z01)
 refine z0r ?_
 refine z0d (z1o (fun q:Nat × Int=>⟨58,[(1,I .i64 q.2),(2,.ptr (0,2) 0),(6,.ref (0,6)),(7,.ref (0,7))],[(7,.row 9 1 ((z6a c a q.1).map fun x=>[z6o x])),(6,.row 3 1 (((up c a).take q.1).map fun x=>[z2g x])),(2,.box (c.cs.map .d))],H⟩) (fun q=>(way c a)[q.1]? =some q.2) (fun q=>(way c a).length-q.1) ?_ (0,a) (by simp[way])) rfl rfl
 intro⟨k,t⟩ hk ih
 simp only at hk ih⊢
 have hkl:=(zA1.1 hk).1
 obtain⟨hdr,htt⟩:=zd7 hw ha hk
 have h0:=(z2p c t).1 htt
 have htl:((up c a).take k).length=k:=by simp;omega
 have hrk:(z6a c a k).length=k:=by simp[z6a];omega
 have hsmall:(z6a c a k).length<137438953472:=by omega
 have hsmall2:((up c a).take k).length<137438953472:=by omega
 have hend:up c t=[]→k=(up c a).length:=fun e=>by
  have:=congrArg List.length hdr
  rw[e,List.length_drop]at this;simp at this;omega
 have hfin:up c t=[]→(up c a).take k=up c a∧z6a c a k=z6a c a (up c a).length:=fun e=>by rw[hend e];simp
 cases hh:c.heads[t.toNat]? with
 | none =>
  have hnh:¬t<c.heads.length:=by rw[List.getElem?_eq_none_iff]at hh;omega
  have he:up c t=[]:=by rw[zaf hw htt,zAz (by simp[head,hh])]
  obtain⟨e1,e2⟩:=hfin he
  repeat' first|(apply z05;first|refine z0n ?_| (apply z0a;refine z02 z16 rfl rfl ?_)|(apply z0c;refine z02 z0i rfl rfl ?_)|(apply z0s;first|refine z02 (z0w rfl) rfl rfl ?_| refine z02 (z47 rfl) rfl rfl ?_))|(apply z06;first|refine z0m ?_|apply z09|refine z1g ?_| refine z1p (fun _=>?_) fun _=>?_)|(apply z07;first|apply z08|apply z00|refine z15 ?_| apply z04|apply z01|refine z0h (fun _=>?_) (fun _=>?_)| refine z0o ?_)
  all_goals try omega
  all_goals
   refine z1f 6 rfl ?_
   refine z1f 7 rfl ?_
   exact z0e func72 _ z2s ⟨by rw[e1,e2];rfl,rfl⟩
 | some x =>
  have hxl:=(zA1.1 hh).1
  obtain⟨r,hr⟩:∃r,c.rels[t.toNat]? =some r:=⟨_,zA0 (by omega)⟩
  have hrt:zha c t=r:=by simp[zha,hr]
  have hbad:(x<0∨(c.tokens.length:Int)≤x)→up c t=[]:=fun e=>by
   rw[zaf hw htt,zAz]
   simp only[head,hh]
   rw[zAy]
   rw[z2p];omega
  have hgood:0≤x→x<c.tokens.length→head c t=x:=fun e1 e2=>by
   simp only[head,hh]
   rw[zAz ((z2p c x).2 ⟨e1,e2⟩)]
  have hgo:0≤x→x<c.tokens.length→(way c a)[k+1]? =some x∧(up c a).take (k+1)=(up c a).take k++[x]∧z6a c a (k+1)=z6a c a k++[r]:=fun e1 e2=>by
   have hu:up c t=x::up c x:=by rw[zaf hw htt,zAy (by rw[hgood e1 e2];omega),hgood e1 e2]
   have hx:(up c a)[k]? =some x:=by
    have:=congrArg (fun l=>l[0]?) (hdr.trans hu)
    simpa[List.getElem?_drop]using this
   refine⟨by rw[zl0];exact hx,by rw[List.take_add_one,hx];rfl,?_⟩
   rw[z6a,List.take_add_one,hk,List.map_append]
   simp[z6a,hrt]
  have hfull:¬((((up c a).take k).length:Nat):Int)<(c.tokens.length:Int)→up c t=[]:=fun e=>by
   have:k=(up c a).length:=by omega
   rw[←hdr,this];simp
  repeat' first|(apply z05;first|refine z0n ?_| (apply z0a;first|refine z02 z16 rfl rfl ?_| refine z02 z2f rfl rfl ?_)|(apply z0c;refine z02 z0i rfl rfl ?_)|(apply z0k;first|refine z02 (z3k rfl h0.1 (z6h hh) rfl) rfl rfl ?_| refine z02 (z3k rfl h0.1 (z6h hr) rfl) rfl rfl ?_)|(apply z0s;first|refine z02 (z0w rfl) rfl rfl ?_| refine z02 (z47 rfl) rfl rfl ?_| refine z99 _ rfl ?_)|(apply z3c;refine z3b rfl ?_))|(apply z06;first|refine z0m ?_|apply z09|refine z1g ?_| refine z1p (fun _=>?_) fun _=>?_)|(apply z07;first|apply z08|apply z00|refine z1j ?_| refine z15 ?_| apply z04|apply z01|apply z03|refine z0h (fun _=>?_) (fun _=>?_)| refine z0o ?_)
  all_goals try omega
  all_goals first
   | (have he:up c t=[]:=by first|exact hbad (by omega)|exact hfull (by assumption)
      obtain⟨e1,e2⟩:=hfin he
      refine z1f 6 rfl ?_
      refine z1f 7 rfl ?_
      exact z0e func72 _ z2s ⟨by rw[e1,e2];rfl,rfl⟩)
   | (obtain⟨e1,e2,e3⟩:=hgo (by omega) (by omega)
      refine z4n 54 6 rfl rfl ?_
      refine z4n 50 7 rfl rfl ?_
      refine z0d (ih (k+1,x) e1 (by simp only;omega)) ?_ ?_
      all_goals first|(rw[e2,e3];rfl)|rfl)
theorem zvt(l:List Int)(x:Int)(hl:l.length≤1000000):z0q prog 110 [.d (ints l),I .i64 x] (I .i64 (z5a (fun y=>decide (x=y)) l 0)):=by
 refine z0y fun H=>?_
 refine z0g func110 (by kernel_rfl) rfl (by simp) ?_
 dsimp only[f110]
 repeat' first|(apply z05;first|refine z0n ?_| (apply z0s;refine z02 (z0w rfl) rfl rfl ?_))|(apply z06;first|refine z0m ?_|apply z09)|(apply z07;first|apply z08|apply z00|apply z01)
 refine z0r ?_
 refine z0d (z1o (fun q:Nat=>⟨19,[(0,.d (ints l)),(1,I .i64 x),(7,I .i64 l.length),(8,I .i64 (q:Nat))],[],H⟩) (fun q=>q≤l.length∧z5a (fun y=>decide (x=y)) (l.drop q) q=z5a (fun y=>decide (x=y)) l 0) (fun q=>l.length-q) ?_ 0 ⟨zAf _,rfl⟩) rfl rfl
 intro k ⟨hk,hi⟩ ih
 by_cases hlt:k<l.length
 ·obtain⟨y,hy⟩:∃x,l[k]? =some x:=⟨_,zA0 hlt⟩
  rw[z3d hy,z5a]at hi
  repeat' first|(apply z05;first|refine z0n ?_| (apply z0a;refine z02 z2f rfl rfl ?_)|(apply z0k;refine z02 (z1a rfl (idx hy)) rfl rfl ?_)|(apply z0t;refine z02 (z0z z1h) rfl rfl ?_))|(apply z06;first|refine z0m ?_|apply z09)|(apply z07;first|apply z08|apply z00|apply z04|apply z01|apply z03|refine z0h (fun _=>?_) (fun _=>?_)| refine z0o ?_)
  all_goals exact zD67
 ·exact zD40
theorem zk4(l:List Int)(x:Int)(hl:l.length≤1000000):z0q prog 84 [.d (ints l),I .i64 x] (B (l.any fun y=>decide (x=y))):=by
 refine z0y fun H=>?_
 refine z0g func84 (by kernel_rfl) rfl (by simp) ?_
 dsimp only[f84]
 repeat' first|(apply z05;first|refine z0n ?_| (apply z0j;refine z29 (zvt l x hl) ?_))|(apply z06;first|refine z0m ?_|apply z09)|(apply z07;first|apply z08|apply z00)
 all_goals exact z0e func84 _ z0p ⟨by rw[←z8c _ l 0],rfl⟩
theorem zsl(a b:List Str)(ha:a.length≤1000000)(hb:b.length≤1000000):z0q prog 128 [.d (strs a),.d (strs b)] (B (decide (a=b))):=by
 refine z0y fun H=>?_
 refine z0g func128 (by kernel_rfl) rfl (by simp) ?_
 dsimp only[f128]
 by_cases hlen:a.length=b.length
 ·repeat' (first|(apply z05;first|refine z0n ?_| (apply z0s;refine z02 (z0w rfl) rfl rfl ?_))|(apply z06;first|refine z0m ?_|apply z09)|(apply z07;first|apply z08|apply z00|apply z04|apply z01|refine z38 rfl (fun _=>?_) fun _=>?_))
  ·omega
  refine z0r ?_
  refine z0d (z1o (fun q:Nat=>⟨26,[(0,.d (strs a)),(1,.d (strs b)),(12,I .i64 a.length),(13,I .i64 (q:Nat))],[],H⟩) (fun q=>q≤a.length∧∀j<q,a[j]? =b[j]?) (fun q=>a.length-q) ?_ 0 ⟨zAf _,by simp⟩) rfl rfl
  intro k ⟨hk,hi⟩ ih
  by_cases hlt:k<a.length
  ·obtain⟨x,hx⟩:∃x,a[k]? =some x:=⟨_,zA0 hlt⟩
   obtain⟨y,hy⟩:∃x,b[k]? =some x:=⟨_,zA0 (by omega)⟩
   repeat' first|(apply z05;first|refine z0n ?_| (apply z0t;refine z02 (z0z z1h) rfl rfl ?_))|(apply z06;first|refine z0m ?_|apply z09)|(apply z07;first|apply z08|apply z00|apply z04|apply z01|apply z2o|apply z03|refine z0h (fun _=>?_) (fun _=>?_)| refine z38 rfl (fun _=>?_) (fun _=>?_)|refine z0o ?_)|(apply z2m;first|(apply z1e;refine z2c mix ?_)|refine z2w ?_| (apply z0v;refine z0x z2f rfl rfl ?_)|(apply z1i;first|refine z0x (z1a rfl (idx hx)) rfl rfl ?_| refine z0x (z1a rfl (idx hy)) rfl rfl ?_))
   all_goals try omega
   all_goals first
    | (refine z0e func128 _ z0p ⟨?_,rfl⟩
       rw[zAo]
       intro e;subst e;rw[hx]at hy;simp_all;done)
    | (refine z0d (ih (k+1) ⟨by omega,fun j hj=>?_⟩ (by omega)) rfl rfl
       by_cases e:j=k
       ·subst e;rw[hx,hy];simp_all
       ·exact hi j (by omega))
  ·repeat' (first|(apply z05;refine z0n ?_)|(apply z06;first|refine z0m ?_|apply z09)|(apply z07;first|apply z08|apply z00|apply z04|apply z01|apply z2o|refine z0h (fun _=>?_) (fun _=>?_)| refine z0o ?_)|(apply z2m;refine z2w ?_))
   all_goals try omega
   all_goals
    refine z0e func128 _ z0p ⟨?_,rfl⟩
    rw[zAi]
    exact zrt hlen fun j hj=>hi j (by omega)
 ·repeat' (first|(apply z05;first|refine z0n ?_| (apply z0s;refine z02 (z0w rfl) rfl rfl ?_))|(apply z06;first|refine z0m ?_|apply z09)|(apply z07;first|apply z08|apply z00|apply z04|apply z01|refine z38 rfl (fun _=>?_) fun _=>?_))
  ·refine z0e func128 _ z0p ⟨?_,rfl⟩
   rw[zAo]
   intro e;subst e;exact hlen rfl
  ·omega
abbrev scD(c:z10)(g:Lf)(a b:Int):PV:=.d (.agg (c.cs++g.cs++[z2g a,z2g b]))
theorem zyy{c:z10}(hw:Wf c)(g:Lf){a:Int}(b:Int)(ha:token c a=true):z0q prog 100 [scD c g a b] (B (decide ((up c a)[0]? =some b))):=by
 have hul:=z9w c a
 have htok:=hw.tok
 refine z0y fun H=>?_
 refine z0g func100 (by kernel_rfl) rfl (by simp) ?_
 dsimp only[f100]
 cases hu:up c a with
 | nil =>
  have hs:=zoi hw ha
  rw[hu]at hs
  repeat' first|(apply z05;first|refine z0n ?_| (apply z0a;first|refine z02 z16 rfl rfl ?_| refine z02 z1y rfl rfl ?_)|(apply z0c;refine z02 z0i rfl rfl ?_)|(apply z0j;refine z29 hs ?_)|(apply z18;refine z0b z1m ?_))|(apply z06;first|refine z0m ?_|apply z09)|(apply z07;first|apply z08|apply z00|apply z2o)|(apply z2m;first|(apply z1e;refine z2c mix ?_)|refine z6d rfl rfl (by decide) ?_|refine z2w ?_| (apply z3v;refine z0x (z0w rfl) rfl rfl ?_))
  all_goals try (exfalso;simp_all;done)
  all_goals exact z0e func100 _ z0p ⟨rfl,rfl⟩
 | cons x r =>
  have hs:=zoi hw ha
  rw[hu]at hs hul
  have h0:(x::r)[(0:Int).toNat]? =some x:=rfl
  repeat' first|(apply z05;first|refine z0n ?_| (apply z0a;first|refine z02 z16 rfl rfl ?_| refine z02 z1y rfl rfl ?_)|(apply z0c;refine z02 z0i rfl rfl ?_)|(apply z0j;refine z29 hs ?_)|(apply z18;refine z0b z1m ?_))|(apply z06;first|refine z0m ?_|apply z09)|(apply z07;first|apply z08|apply z00|apply z2o)|(apply z2m;first|(apply z1e;refine z2c mix ?_)|refine z6d rfl rfl (by decide) ?_|refine z2w ?_| (apply z0v;first|refine z0x z16 rfl rfl ?_| refine z0x z2f rfl rfl ?_)|(apply z0u;refine z0x z0i rfl rfl ?_)|(apply z1i;refine z0x (z1a rfl (z6h h0)) rfl rfl ?_)|(apply z3v;refine z0x (z0w rfl) rfl rfl ?_)|(refine z4h rfl rfl (fun hg=>?_) (fun hg=>?_) <;> simp only[hg] <;> (try simp only[zA3,zA5,zA6,zA8]at hg)))
  all_goals try (exfalso;simp_all;done)
  all_goals exact z0e func100 _ z0p ⟨by simp,rfl⟩
theorem y3l{c:z10}(hw:Wf c)(g:Lf){a:Int}(b:Int)(ha:token c a=true):z0q prog 101 [scD c g a b] (B ((up c a).any fun y=>decide (b=y))):=by
 have hul:=z9w c a
 have htok:=hw.tok
 refine z0y fun H=>?_
 refine z0g func101 (by kernel_rfl) rfl (by simp) ?_
 dsimp only[f101]
 repeat' first|(apply z05;first|refine z0n ?_| (apply z0a;first|refine z02 z16 rfl rfl ?_| refine z02 z1y rfl rfl ?_)|(apply z0c;refine z02 z0i rfl rfl ?_)|(apply z0j;first|refine z29 (zoi hw ha) ?_| refine y6j (zk4 (up c a) b (by omega)) rfl (by decide) ?_)|(apply z18;refine z0b z1m ?_))|(apply z06;first|refine z0m ?_|apply z09)|(apply z07;first|apply z08|apply z00)
 all_goals exact z0e func101 _ z0p ⟨rfl,rfl⟩
theorem zt4{kk sl:Nat}(l:List Int)(x:Int)(hl:l.length≤1000000):z1v prog 110 [.ref (kk,sl),I .i64 x] [((kk,sl),.row 3 1 (l.map fun x=>[z2g x]))] [] (I .i64 (z5a (fun y=>decide (x=y)) l 0)):=by
 refine z2a fun H hH=>?_
 have hH0:=hH ((kk,sl),.row 3 1 (l.map fun x=>[z2g x])) (by simp)
 refine z0g func110 (by kernel_rfl) rfl (by simp) ?_
 dsimp only[f110]
 repeat' first|(apply z05;first|refine z0n ?_| (apply z0s;refine z02 (z47 rfl) rfl (bk1 hH0) ?_))|(apply z06;first|refine z0m ?_|apply z09)|(apply z07;first|apply z08|apply z00|apply z01)
 refine z0r ?_
 refine z0d (z1o (fun q:Nat=>⟨19,[(0,.ref (kk+1,sl)),(1,I .i64 x),(7,I .i64 l.length),(8,I .i64 (q:Nat))],[],H⟩) (fun q=>q≤l.length∧z5a (fun y=>decide (x=y)) (l.drop q) q=z5a (fun y=>decide (x=y)) l 0) (fun q=>l.length-q) ?_ 0 ⟨zAf _,rfl⟩) rfl rfl
 intro k ⟨hk,hi⟩ ih
 by_cases hlt:k<l.length
 ·obtain⟨y,hy⟩:∃x,l[k]? =some x:=⟨_,zA0 hlt⟩
  rw[z3d hy,z5a]at hi
  repeat' first|(apply z05;refine z0n ?_)|(apply z06;first|refine z0m ?_|apply z09)|(apply z07;first|apply z08|apply z00|apply z04|apply z01|refine z0h (fun _=>?_) (fun _=>?_)| refine z0o ?_)
  refine z05 ?_
  refine z02 (z4r (kk:=1) (e':=3) (ys:=l.map fun x=>[z2g x]) rfl (by rw[zA4];omega)) rfl (bk1 hH0) ?_
  repeat' first|(apply z05;first|refine z0n ?_| (apply z0a;refine z02 (z23 hy rfl rfl rfl) rfl (bk1 hH0) ?_)|(apply z0t;refine z02 (z0z z1h) rfl rfl ?_))|(apply z06;first|refine z0m ?_|apply z09)|(apply z07;first|apply z08|apply z00|apply z04|apply z03|refine z0h (fun _=>?_) fun _=>?_)
  all_goals exact zD67
 ·exact zD40
def zox(c:z10)(g:Lf)(a b:Int):Bool :=
 decide (0≤z5a (fun y=>decide (b=y)) (way c a) 0)&&decide ((z6a c a (up c a).length).take (z5a (fun y=>decide (b=y)) (way c a) 0).toNat=g.args)
theorem zj8(c:z10)(a:Int):(z6a c a (up c a).length).length=(up c a).length:=by simp[z6a,way]
theorem zxm{c:z10}(hw:Wf c)(g:Lf)(hg:g.args.length≤1000000){a:Int}(b:Int)(ha:token c a=true):z0q prog 102 [scD c g a b] (B (zox c g a b)):=by
 have hul:=z9w c a
 have htok:=hw.tok
 have hrl:=zj8 c a
 have hwl:(way c a).length=(up c a).length+1:=rfl
 have hr:=zf7 (fun y=>decide (b=y)) (way c a) 0
 have hx:∀k,z1v prog 110 [.ref (0,k),I .i64 b] [((0,k),.row 3 1 ((way c a).map fun x=>[z2g x]))] [] (I .i64 (z5a (fun y=>decide (b=y)) (way c a) 0)):=fun k=>zt4 (way c a) b (by omega)
 unfold zox
 generalize z5a (fun y=>decide (b=y)) (way c a) 0=n at hr hx⊢
 have hq:=zsl ((z6a c a (up c a).length).take n.toNat) g.args (by rw[zAm];omega) hg
 refine z0y fun H=>?_
 refine z0g func102 (by kernel_rfl) rfl (by simp) ?_
 dsimp only[f102]
 repeat' first|(apply z05;first|refine z0n ?_| (apply z0a;first|refine z02 z16 rfl rfl ?_| refine z02 z1y rfl rfl ?_)|(apply z0c;refine z02 z0i rfl rfl ?_)|(apply z0j;refine z29 (zoi hw ha) ?_)|(apply z18;refine z0b z1m ?_))|(apply z06;first|refine z0m ?_|apply z09)|(apply z07;first|apply z08|apply z00|apply z2o)|(apply z2m;first|(apply z1e;refine z2c mix ?_)|refine z6d rfl rfl (by decide) ?_|refine z2w ?_| (apply z0v;refine z0x z16 rfl rfl ?_)|(apply z0u;refine z0x z0i rfl rfl ?_)|(apply z7b;refine z0x (z7v rfl (by omega) (by omega) fun _=>rfl) rfl rfl ?_)|(apply z3v;refine zco (q:=[a]) (r:=up c a) (by first|exact rfl|exact⟨_,rfl,rfl,rfl⟩) rfl rfl rfl rfl rfl (fun _=>rfl) rfl rfl (by decide) (by simp;omega) ?_)|(apply z1s;first|refine z5b hq ?_| refine y1b (first:=[]) (cap:=[]) (ps:=[.ref (0,18),I .i64 b]) (bs:=[((0,18),.row 3 1 ((way c a).map fun x=>[z2g x]))]) (hx 18) (by first|exact rfl|exact⟨_,rfl,rfl,rfl⟩) rfl rfl (bk1 rfl) (by decide) ?_)|(apply z6y;refine zwc (ys:=[a].map fun x=>[z2g x]) (by first|exact rfl|exact⟨_,rfl,rfl,rfl⟩) rfl rfl rfl rfl rfl rfl rfl rfl rfl (by decide) ?_)|(refine z4h rfl rfl (fun hg=>?_) (fun hg=>?_) <;> simp only[hg] <;> (try simp only[zA3,zA5,zA6,zA8]at hg)))
 all_goals exact z0e func102 _ z0p ⟨by first|rfl|(rw[zAi (p:=0≤n) (by assumption)];rfl)|(rw[zAo (p:=0≤n) (by assumption)];rfl),rfl⟩
abbrev scL(c:z10)(g:Lf)(a b:Int):List D:=c.cs++g.cs++[z2g a,z2g b]
def zcy(g:Lf)(a b:Int)(n:Node):Bool:=decide (n.label=g.name)&&decide (n.b≤min a b)&&decide (max a b<n.e)
theorem zxl(c:z10)(g:Lf)(a b:Int)(n:Node)(k sl:Nat):z1v prog 130 [.d (.agg n.cs),.ptr (k,sl) 0] [((k,sl),.box ((scL c g a b).map .d))] [] (B (zcy g a b n)):=by
 refine z2a fun H hH=>?_
 have hH0:=hH ((k,sl),.box ((scL c g a b).map .d)) (by simp)
 refine z0g func130 (by kernel_rfl) rfl (by simp) ?_
 dsimp only[f130]
 repeat' first|(apply z05;first|refine z0n ?_| (apply z0a;first|refine z02 (z16 (b:=.box ((scL c g a b).map .d))) rfl (bk1 hH0) ?_| refine z02 z16 rfl rfl ?_)|(apply z0c;refine z02 z0i rfl rfl ?_)|(apply z0s;first|refine z02 zcr rfl rfl ?_| refine z02 z84 rfl rfl ?_)|(apply z18;refine z0b z1m ?_))|(apply z06;first|refine z0m ?_|apply z09|refine z1g ?_| refine z1p (fun _=>?_) fun _=>?_)|(apply z07;first|apply z08|apply z00)
 all_goals exact z0e func130 _ z0p ⟨by unfold zcy;first|(rw[zAi (p:=n.label=g.name) (by assumption),zAi (p:=n.b≤min a b) (by assumption)];rfl)|(rw[zAi (p:=n.label=g.name) (by assumption),zAo (p:=n.b≤min a b) (by assumption)];rfl)|(rw[zAo (p:=n.label=g.name) (by assumption)];rfl),rfl⟩
theorem y08(c:z10)(g:Lf)(a b:Int)(hc:c.nodes.length≤1000000):z0q prog 103 [scD c g a b] (B (c.nodes.any (zcy g a b))):=by
 refine z0y fun H=>?_
 refine z0g func103 (by kernel_rfl) rfl (by simp) ?_
 dsimp only[f103]
 repeat' first|(apply z05;first|refine z0n ?_| (apply z0a;refine z02 z16 rfl rfl ?_)|(apply z0c;refine z02 z0i rfl rfl ?_)|(apply z0j;refine z4g (zvb (kk:=0) (zcy g a b) c.nodes hc fun k x _=>zxl c g a b x k 1) rfl rfl (by decide) ?_)|(apply z18;refine z0b z1m ?_)|refine z4x rfl rfl (by decide) ?_)|(apply z06;first|refine z0m ?_|apply z09)|(apply z07;first|apply z08|apply z00)
 all_goals exact z0e func103 _ z0p ⟨rfl,rfl⟩
def z7e:List (List D):=[[.lit .nilFunc],[.lit .nilFunc],[.lit .nilFunc],[fnD 97],[fnD 98],[fnD 99],[fnD 100],[fnD 101],[fnD 102],[fnD 103]]
def zk7(c:z10)(g:Lf)(a b:Int):Bool :=
 if g.op=7 then(up c a).any fun y=>decide (b=y)else if g.op=8 then zox c g a b else if g.op=9 then c.nodes.any (zcy g a b)else decide ((up c a)[0]? =some b)
theorem zj9{c:z10}(hw:Wf c)(g:Lf)(hg:g.args.length≤1000000){a:Int}(b:Int)(ha:token c a=true)(hc:c.nodes.length≤1000000)(ho:g.op=6∨g.op=7∨g.op=8∨g.op=9):z0q prog 73 [scD c g a b] (B (zk7 c g a b)):=by
 have h6:g.op=6→z0q prog 100 [scD c g a b] (B (zk7 c g a b)):=fun e=>by rw[zk7,e];exact zyy hw g b ha
 have h7:g.op=7→z0q prog 101 [scD c g a b] (B (zk7 c g a b)):=fun e=>by rw[zk7,e];exact y3l hw g b ha
 have h8:g.op=8→z0q prog 102 [scD c g a b] (B (zk7 c g a b)):=fun e=>by rw[zk7,e];exact zxm hw g hg b ha
 have h9:g.op=9→z0q prog 103 [scD c g a b] (B (zk7 c g a b)):=fun e=>by rw[zk7,e];exact y08 c g a b hc
 refine z0y fun H=>?_
 refine z0g func73 (by kernel_rfl) rfl (by simp) ?_
 dsimp only[f73]
 rcases ho with h|h|h|h
 ·have hv:z7e[g.op.toNat]? =some [fnD 100]:=by rw[h];rfl
  repeat' first|(apply z05;first|refine zdl (ys:=z7e) rfl rfl rfl rfl rfl rfl rfl rfl (by decide) ?_|refine z0n ?_| (apply z18;refine z0b z1m ?_))|(apply z06;first|refine z0m ?_|apply z09)|(apply z07;first|apply z08|apply z00|apply z2o)|(apply z2m;first|(apply z1e;refine z2c mix ?_)|refine z2w ?_| (apply z0v;first|refine z0x z1r rfl rfl ?_| refine z0x z16 rfl rfl ?_| refine z0x z2f rfl rfl ?_)|(apply z0u;refine z0x z0i rfl rfl ?_)|(apply z1i;refine z0x (z1a rfl hv) rfl rfl ?_)|(apply z1s;refine zjv (by first|exact rfl|exact⟨_,rfl,rfl,rfl⟩) rfl (h6 h) rfl (by decide) ?_))
  all_goals exact z0e func73 _ z0p ⟨rfl,rfl⟩
 ·have hv:z7e[g.op.toNat]? =some [fnD 101]:=by rw[h];rfl
  repeat' first|(apply z05;first|refine zdl (ys:=z7e) rfl rfl rfl rfl rfl rfl rfl rfl (by decide) ?_|refine z0n ?_| (apply z18;refine z0b z1m ?_))|(apply z06;first|refine z0m ?_|apply z09)|(apply z07;first|apply z08|apply z00|apply z2o)|(apply z2m;first|(apply z1e;refine z2c mix ?_)|refine z2w ?_| (apply z0v;first|refine z0x z1r rfl rfl ?_| refine z0x z16 rfl rfl ?_| refine z0x z2f rfl rfl ?_)|(apply z0u;refine z0x z0i rfl rfl ?_)|(apply z1i;refine z0x (z1a rfl hv) rfl rfl ?_)|(apply z1s;refine zjv (by first|exact rfl|exact⟨_,rfl,rfl,rfl⟩) rfl (h7 h) rfl (by decide) ?_))
  all_goals exact z0e func73 _ z0p ⟨rfl,rfl⟩
 ·have hv:z7e[g.op.toNat]? =some [fnD 102]:=by rw[h];rfl
  repeat' first|(apply z05;first|refine zdl (ys:=z7e) rfl rfl rfl rfl rfl rfl rfl rfl (by decide) ?_|refine z0n ?_| (apply z18;refine z0b z1m ?_))|(apply z06;first|refine z0m ?_|apply z09)|(apply z07;first|apply z08|apply z00|apply z2o)|(apply z2m;first|(apply z1e;refine z2c mix ?_)|refine z2w ?_| (apply z0v;first|refine z0x z1r rfl rfl ?_| refine z0x z16 rfl rfl ?_| refine z0x z2f rfl rfl ?_)|(apply z0u;refine z0x z0i rfl rfl ?_)|(apply z1i;refine z0x (z1a rfl hv) rfl rfl ?_)|(apply z1s;refine zjv (by first|exact rfl|exact⟨_,rfl,rfl,rfl⟩) rfl (h8 h) rfl (by decide) ?_))
  all_goals exact z0e func73 _ z0p ⟨rfl,rfl⟩
 ·have hv:z7e[g.op.toNat]? =some [fnD 103]:=by rw[h];rfl
  repeat' first|(apply z05;first|refine zdl (ys:=z7e) rfl rfl rfl rfl rfl rfl rfl rfl (by decide) ?_|refine z0n ?_| (apply z18;refine z0b z1m ?_))|(apply z06;first|refine z0m ?_|apply z09)|(apply z07;first|apply z08|apply z00|apply z2o)|(apply z2m;first|(apply z1e;refine z2c mix ?_)|refine z2w ?_| (apply z0v;first|refine z0x z1r rfl rfl ?_| refine z0x z16 rfl rfl ?_| refine z0x z2f rfl rfl ?_)|(apply z0u;refine z0x z0i rfl rfl ?_)|(apply z1i;refine z0x (z1a rfl hv) rfl rfl ?_)|(apply z1s;refine zjv (by first|exact rfl|exact⟨_,rfl,rfl,rfl⟩) rfl (h9 h) rfl (by decide) ?_))
  all_goals exact z0e func73 _ z0p ⟨rfl,rfl⟩
def zky(c:z10)(g:Lf)(i j:Int):Bool:=if g.op=10 then decide (g.mn≤((up c i).length:Int))&&decide (((up c i).length:Int)≤g.mx)else zk7 c g i j
end Go.Proofs.YtonhfccmeammbaaGreatDoor
namespace Go.Proofs.YtonhfccmeammbaaGreatDoor
open Go.Ab
set_option maxHeartbeats 20000000
section
variable{P:Program}{f:FuncId}{R:z4b}{k:List Item}{all:Array Oper}{l:List Oper}{n:Nat}{tm:List (Nat × PV)}{hp:Hp}{up:Hf}{d:Nat}{ty:TypeId}{pos:String}{aft:Array Edge}{gd:Option (Nat × Bool)}
theorem zjc(a b:Nat){q:Blk}(hb:Ab.look hp a=some q)(hab:(!(a == b)&&!q.says (0,b))=true)(h:Ops P f R all l k ⟨n,zc6 a b tm,(b,q)::(a,.gone)::zdk a b hp,up⟩):Ops P f R all l k ⟨n,tm,hp,up⟩ :=
 fun is his=>z4n a b hb hab (h is his)
theorem ztq{args:List Operand}{ats:Array TypeId}{li:List Int}(hev:St.evs ⟨n,tm,hp,up⟩ args=some [.d (ints li)])(hl:li.length≤9223372036854775807)(hd:d<n)(hfr:(z1k d hp&&z1q d tm)=true)
 (h:Ops prog f R all l k ⟨n,(d,.ptr (0,d) 0)::tm,(d,z2u (li.take 120) 0)::hp,up⟩) :
 Op1 prog f R all ⟨some d,.call ⟨.value (.func 9),args.toArray,ats⟩,ty,pos,aft,gd⟩ l k ⟨n,tm,hp,up⟩ :=
 zs7 hev (y5j li hl _) hd hfr fun r H ⟨h1,h2⟩=>⟨_,h1,h2,rfl,rfl,h⟩
end
attribute [local irreducible] Run Ops Op1 z1z Val Tr z0q z1v NF Rel z4v z2b
def sX:Str:=⟨#[120]⟩
end Go.Proofs.YtonhfccmeammbaaGreatDoor
namespace Go.Proofs.YtonhfccmeammbaaGreatDoor
open Go.Ab
set_option maxHeartbeats 20000000
attribute [local irreducible] Run Ops Op1 z1z Val Tr z0q z1v NF Rel
theorem zuq{cf:FuncId}{sl kk:Nat}{blk:Blk}(p:Attr→Bool)(xs:List (Attr))(hl:xs.length≤1000000)(hcl:∀k x,x∈xs→z1v prog cf [.d (.agg x.cs),.ptr (k,sl) 0] [((k,sl),blk)] [] (B (p x))) :
 z1v prog 88 [.d (.slice (xs.map Attr.cs)),.fn (.func cf) [] [.ptr (kk,sl) 0]] [((kk,sl),blk)] [] (I .i64 (z5a p xs 0)):=by
 refine z2a fun H hH=>?_
 have hH0:=hH ((kk,sl),blk) (by simp)
 refine z0g func88 (by kernel_rfl) rfl (by simp) ?_
 dsimp only[f88]
 repeat' first|(apply z05;first|refine z0n ?_| (apply z0s;refine z02 (z0w rfl) rfl rfl ?_))|(apply z06;first|refine z0m ?_|apply z09)|(apply z07;first|apply z08|apply z00|apply z01)
 refine z0r ?_
 refine z0d (z1o (fun q:Nat=>⟨19,[(0,.d (.slice (xs.map Attr.cs))),(1,.fn (.func cf) [] [.ptr (kk+1,sl) 0]),(7,I .i64 xs.length),(8,I .i64 (q:Nat))],[],H⟩) (fun q=>q≤xs.length∧z5a p (xs.drop q) q=z5a p xs 0) (fun q=>xs.length-q) ?_ 0 ⟨zAf _,rfl⟩) rfl rfl
 intro k ⟨hk,hi⟩ ih
 by_cases hlt:k<xs.length
 ·obtain⟨x,hx⟩:∃x,xs[k]? =some x:=⟨_,zA0 hlt⟩
  have hm:=zA2 hx
  rw[z3d hx,z5a]at hi
  repeat' first|(apply z05;first|refine z0n ?_| (apply z0a;refine z02 z1w rfl rfl ?_)|(apply z0k;refine z02 (z1a rfl (idx hx)) rfl rfl ?_)|(apply z0t;refine z02 (z0z z1h) rfl rfl ?_)|(apply z0j;refine zkx (first:=[]) (cap:=[.ptr (kk+1,sl) 0]) (ps:=[.d (.agg x.cs)]) (bs:=[((kk+1,sl),blk)]) (hcl (kk+1) x hm) rfl rfl (bk1 hH0) (by decide) ?_))|(apply z06;first|refine z0m ?_|apply z09)|(apply z07;first|apply z08|apply z00|apply z04|apply z01|apply z03|refine z0h (fun _=>?_) (fun _=>?_)| refine z2q rfl (fun _=>?_) (fun _=>?_)|refine z0o ?_)
  all_goals try omega
  all_goals first
   | (refine z0e func88 _ z0p ⟨?_,rfl⟩;rw[←hi,zAz (by assumption)])
   | exact z0d (ih (k+1) ⟨by omega,by rw[←hi,zAy (by simp_all)]⟩ (by omega)) rfl rfl
 ·obtain rfl:k=xs.length:=by omega
  rw[zAs,z5a]at hi
  repeat' first|(apply z05;refine z0n ?_)|(apply z06;first|refine z0m ?_|apply z09)|(apply z07;first|apply z08|apply z00|apply z04|apply z01|refine z0h (fun _=>?_) (fun _=>?_)| refine z0o ?_)
  all_goals try omega
  all_goals exact z0e func88 _ z0p ⟨by rw[←hi],rfl⟩
theorem y0f(a:Attr)(x:Str)(k sl:Nat):z1v prog 89 [.d (.agg a.cs),.ptr (k,sl) 0] [((k,sl),.box [S x])] [] (B (decide (a.name=x))):=by
 refine z2a fun H hH=>?_
 have hH0:=hH ((k,sl),.box [S x]) (by simp)
 refine z0g func89 (by kernel_rfl) rfl (by simp) ?_
 dsimp only[f89]
 repeat' first|(apply z05;first|refine z0n ?_| (apply z0a;first|refine z02 (z16 (b:=.box [S x])) rfl (bk1 hH0) ?_| refine z02 z16 rfl rfl ?_)|(apply z0c;refine z02 z0i rfl rfl ?_)|(apply z18;refine z0b z1m ?_))|(apply z06;first|refine z0m ?_|apply z09)|(apply z07;first|apply z08|apply z00)
 all_goals exact z0e func89 _ z0p ⟨rfl,rfl⟩
def z4w(c:z10)(x:Str):Int:=z5a (fun a:Attr=>decide (a.name=x)) c.attrs 0
theorem zgx(c:z10)(x:Str)(hc:c.attrs.length≤1000000):z0q prog 61 [.d (.slice (c.attrs.map Attr.cs)),S x] (I .i64 (z4w c x)):=by
 refine z0y fun H=>?_
 refine z0g func61 (by kernel_rfl) rfl (by simp) ?_
 dsimp only[f61]
 repeat' first|(apply z05;first|refine z0n ?_| (apply z0j;refine z4g (zuq (kk:=0) (fun a=>decide (a.name=x)) c.attrs hc fun k y _=>y0f y x k 3) rfl rfl (by decide) ?_)|(apply z18;refine z0b z43 ?_)|refine z4x rfl rfl (by decide) ?_)|(apply z06;first|refine z0m ?_|apply z09)|(apply z07;first|apply z08|apply z00)
 all_goals exact z0e func61 _ z0p ⟨rfl,rfl⟩
def z5p(c:z10)(t a:Int):Str:=if t<0∨(c.tokens.length:Int)≤t then⟨#[]⟩else if a<0 then⟨#[]⟩else match c.tokens[t.toNat]? with
 | some vs=>(vs[a.toNat]?).getD ⟨#[]⟩
 | none=>⟨#[]⟩
theorem zty(c:z10)(t a:Int):z0q prog 96 [c.d,I .i64 t,I .i64 a] (S (z5p c t a)):=by
 refine z0y fun H=>?_
 refine z0g func96 (by kernel_rfl) rfl (by simp) ?_
 dsimp only[f96]
 by_cases ht:t<0∨(c.tokens.length:Int)≤t
 ·have hv:z5p c t a=⟨#[]⟩:=by rw[z5p,zAz ht]
  all_goals exact zD29
 ·obtain⟨vs,hvs⟩:∃x,c.tokens[t.toNat]? =some x:=⟨_,zA0 (by omega)⟩
  by_cases ha:a<0
  ·have hv:z5p c t a=⟨#[]⟩:=by rw[z5p,zAy ht,zAz ha]
   all_goals exact zD29
  ·have hv:z5p c t a=(vs[a.toNat]?).getD ⟨#[]⟩:=by rw[z5p,zAy ht,zAy ha,hvs]
   cases hx:vs[a.toNat]? with
   | none =>
    rw[hx]at hv
    have:=List.getElem?_eq_none_iff.1 hx
    repeat' first|(apply z05;first|refine z0n ?_| (apply z0a;first|refine z02 z16 rfl rfl ?_| refine z02 z2f rfl rfl ?_)|(apply z0c;refine z02 z0i rfl rfl ?_)|(apply z0k;refine z02 (z1a rfl (z6h hvs)) rfl rfl ?_)|(apply z0s;refine z02 (z0w rfl) rfl rfl ?_)|(apply z18;refine z0b z1m ?_))|(apply z06;first|refine z0m ?_|apply z09|refine z1g ?_| refine z1p (fun _=>?_) fun _=>?_)|(apply z07;first|apply z08|apply z00|refine z1j ?_| apply z04|refine z0h (fun _=>?_) fun _=>?_)
    all_goals try omega
    all_goals exact z0e func96 _ z0p ⟨by rw[hv];rfl,rfl⟩
   | some x =>
    rw[hx]at hv
    have:=(zA1.1 hx).1
    repeat' first|(apply z05;first|refine z0n ?_| (apply z0a;first|refine z02 z16 rfl rfl ?_| refine z02 z2f rfl rfl ?_)|(apply z0c;refine z02 z0i rfl rfl ?_)|(apply z0k;first|refine z02 (z1a rfl (z6h hvs)) rfl rfl ?_| refine z02 (z1a rfl (z6h hx)) rfl rfl ?_)|(apply z0s;refine z02 (z0w rfl) rfl rfl ?_)|(apply z18;refine z0b z1m ?_))|(apply z06;first|refine z0m ?_|apply z09|refine z1g ?_| refine z1p (fun _=>?_) fun _=>?_)|(apply z07;first|apply z08|apply z00|refine z1j ?_| apply z04|refine z0h (fun _=>?_) fun _=>?_)
    all_goals try omega
    all_goals exact z0e func96 _ z0p ⟨by rw[hv];rfl,rfl⟩
theorem zhl(c:z10)(t:Int)(x:Str)(hc:c.attrs.length≤1000000):z0q prog 71 [c.d,I .i64 t,S x] (S (z5p c t (z4w c x))):=by
 refine z0y fun H=>?_
 refine z0g func71 (by kernel_rfl) rfl (by simp) ?_
 dsimp only[f71]
 repeat' first|(apply z05;first|refine z0n ?_| (apply z18;refine z0b z1m ?_))|(apply z06;first|refine z0m ?_|apply z09)|(apply z07;first|apply z08|apply z00|apply z2o)|(apply z2m;first|(apply z1e;refine z2c mix ?_)|refine z2w ?_| (apply z0v;first|refine z0x z1r rfl rfl ?_| refine z0x z16 rfl rfl ?_)|(apply z0u;refine z0x z0i rfl rfl ?_)|(apply z1s;first|refine z5b (zgx c x hc) ?_| refine z5b (zty c t (z4w c x)) ?_))
 all_goals exact z0e func71 _ z0p ⟨rfl,rfl⟩
structure Lp where
 op:Int
 a:Str
 b:Str
 name:Str
 arg:Str
 mn:Int
 mx:Int
def Lp.cs(g:Lp):List D:=[z2g g.op,z6o g.a,z6o g.b,z6o g.name,z6o g.arg,z6o ⟨#[]⟩,zji false,z2g g.mn,z2g g.mx,strs [],.slice []]
abbrev Lp.d(g:Lp):PV:=.d (.agg g.cs)
structure y6d(g:Lp):Prop where
 op:g.op=3∨g.op=4
 h3:g.op=3→g.mn=0∧g.mx=0
 h4:g.op=4→g.name=⟨#[]⟩∧g.arg=⟨#[]⟩
abbrev spD(c:z10)(g:Lp)(a b:Int):PV:=.d (.agg (c.cs++g.cs++[z2g a,z2g b]))
def zwi(c:z10)(g:Lp)(a b:Int):Bool:=if g.op=3 then decide (z5p c a (z4w c g.name)=z5p c b (z4w c g.arg))else decide (g.mn≤b-a)&&decide (b-a≤g.mx)
theorem y0g(c:z10)(g:Lp)(a b:Int)(hc:c.attrs.length≤1000000):z0q prog 97 [spD c g a b] (B (decide (z5p c a (z4w c g.name)=z5p c b (z4w c g.arg)))):=by
 refine z0y fun H=>?_
 refine z0g func97 (by kernel_rfl) rfl (by simp) ?_
 dsimp only[f97]
 repeat' first|(apply z05;first|refine z0n ?_| (apply z18;refine z0b z1m ?_))|(apply z06;first|refine z0m ?_|apply z09)|(apply z07;first|apply z08|apply z00|apply z2o)|(apply z2m;first|(apply z1e;refine z2c mix ?_)|refine z2w ?_| (apply z0v;first|refine z0x z16 rfl rfl ?_| refine z0x z1y rfl rfl ?_)|(apply z0u;refine z0x z0i rfl rfl ?_)|(apply z1s;first|refine z5b (zhl c a g.name hc) ?_| refine z5b (zhl c b g.arg hc) ?_))
 all_goals exact z0e func97 _ z0p ⟨rfl,rfl⟩
theorem zzf(c:z10)(g:Lp)(a b:Int)(ha:-1≤a∧a≤1000000)(hb:-1≤b∧b≤1000000):z0q prog 98 [spD c g a b] (B (decide (g.mn≤b-a)&&decide (b-a≤g.mx))):=by
 refine z0y fun H=>?_
 refine z0g func98 (by kernel_rfl) rfl (by simp) ?_
 dsimp only[f98]
 repeat' first|(apply z05;first|refine z0n ?_| (apply z0a;refine z02 z16 rfl rfl ?_)|(apply z0c;refine z02 z0i rfl rfl ?_)|(apply z0t;refine z02 (z2l z1h) rfl rfl ?_)|(apply z18;refine z0b z1m ?_))|(apply z06;first|refine z0m ?_|apply z09|refine z1g ?_| refine z1p (fun _=>?_) fun _=>?_)|(apply z07;first|apply z08|apply z00)
 all_goals exact z0e func98 _ z0p ⟨by first|(rw[zAi (p:=g.mn≤b-a) (by assumption)];rfl)|(rw[zAo (p:=g.mn≤b-a) (by assumption)];rfl),rfl⟩
theorem zoa(c:z10)(g:Lp)(h:y6d g)(a b:Int)(hc:c.attrs.length≤1000000)(ha:-1≤a∧a≤1000000)(hb:-1≤b∧b≤1000000):z0q prog 73 [spD c g a b] (B (zwi c g a b)):=by
 have h3:g.op=3→z0q prog 97 [spD c g a b] (B (zwi c g a b)):=fun e=>by rw[zwi,e];exact y0g c g a b hc
 have h4:g.op=4→z0q prog 98 [spD c g a b] (B (zwi c g a b)):=fun e=>by rw[zwi,e];exact zzf c g a b ha hb
 refine z0y fun H=>?_
 refine z0g func73 (by kernel_rfl) rfl (by simp) ?_
 dsimp only[f73]
 rcases h.op with h|h
 ·have hv:z7e[g.op.toNat]? =some [fnD 97]:=by rw[h];rfl
  repeat' first|(apply z05;first|refine zdl (ys:=z7e) rfl rfl rfl rfl rfl rfl rfl rfl (by decide) ?_|refine z0n ?_| (apply z18;refine z0b z1m ?_))|(apply z06;first|refine z0m ?_|apply z09)|(apply z07;first|apply z08|apply z00|apply z2o)|(apply z2m;first|(apply z1e;refine z2c mix ?_)|refine z2w ?_| (apply z0v;first|refine z0x z1r rfl rfl ?_| refine z0x z16 rfl rfl ?_| refine z0x z2f rfl rfl ?_)|(apply z0u;refine z0x z0i rfl rfl ?_)|(apply z1i;refine z0x (z1a rfl hv) rfl rfl ?_)|(apply z1s;refine zjv (by first|exact rfl|exact⟨_,rfl,rfl,rfl⟩) rfl (h3 h) rfl (by decide) ?_))
  all_goals exact z0e func73 _ z0p ⟨rfl,rfl⟩
 ·have hv:z7e[g.op.toNat]? =some [fnD 98]:=by rw[h];rfl
  repeat' first|(apply z05;first|refine zdl (ys:=z7e) rfl rfl rfl rfl rfl rfl rfl rfl (by decide) ?_|refine z0n ?_| (apply z18;refine z0b z1m ?_))|(apply z06;first|refine z0m ?_|apply z09)|(apply z07;first|apply z08|apply z00|apply z2o)|(apply z2m;first|(apply z1e;refine z2c mix ?_)|refine z2w ?_| (apply z0v;first|refine z0x z1r rfl rfl ?_| refine z0x z16 rfl rfl ?_| refine z0x z2f rfl rfl ?_)|(apply z0u;refine z0x z0i rfl rfl ?_)|(apply z1i;refine z0x (z1a rfl hv) rfl rfl ?_)|(apply z1s;refine zjv (by first|exact rfl|exact⟨_,rfl,rfl,rfl⟩) rfl (h4 h) rfl (by decide) ?_))
  all_goals exact z0e func73 _ z0p ⟨rfl,rfl⟩
end Go.Proofs.YtonhfccmeammbaaGreatDoor
