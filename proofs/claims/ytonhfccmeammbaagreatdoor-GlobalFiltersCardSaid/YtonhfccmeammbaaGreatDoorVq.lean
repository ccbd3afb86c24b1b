/- A part. -/
import Derived.Test.YtonhfccmeammbaaGreatDoorVt
set_option linter.all false
open Go.Proofs.Tryz
namespace Go.Proofs.YtonhfccmeammbaaGreatDoor
open Go.Ab Go.Rx
set_option maxHeartbeats 20000000
set_option maxRecDepth 100000
attribute [local irreducible] Run Ops Op1 z1z Val Tr z0q z1v NF Rel z5c z5d
abbrev n64(x:Nat):List D:=[y0z (x:Nat)]
abbrev lvs(l:List (List Rg)):D:=.slice (l.map fun r=>[rgs r])
abbrev tbx(lv:List (List Rg))(f l:Nat)(fo:List Nat)(nu:Bool):Blk:=.box [.d (lvs lv),I .u64 (f:Nat),I .u64 (l:Nat),.d (.slice (fo.map n64)),B nu]
theorem zxf{l:List Nat}{k:Nat}{x:Nat}(h:l[k]? =some x):(l.map n64)[((k:Nat):Int).toNat]? =some (n64 x):=by simp[h]
theorem zts{X:Nat}(lv:List (List Rg))(f l:Nat)(fo:List Nat)(nu:Bool)(S:Nat)(hS:S<2 ^ 64)(hfo:fo.length≤64)(hfx:∀x∈fo,x<2 ^ 64)(beg:Bool)(e0:Nat) :
 z1v prog 153 [.ptr (e0,X) 0,I .u64 (S:Nat),B beg] [((e0,X),tbx lv f l fo nu)] [] (I .u64 ((if beg=true then f else nxF S 0 0 fo:Nat):Int)):=by
 refine z2a fun H hH=>?_
 have hX:H e0 X=some (tbx lv f l fo nu):=hH ((e0,X),tbx lv f l fo nu) (by simp)
 refine z0g func153 (by kernel_rfl) rfl (by simp) ?_
 dsimp only[f153]
 cases beg with
 | true =>
  rw[zAz rfl]
  repeat' first|(apply z05;first|refine z0n ?_| (apply z0a;refine z5j rfl hX rfl rfl rfl rfl (by decide) ?_)|(apply z0c;refine z02 z0i rfl rfl ?_))|(apply z06;first|refine z0m ?_|apply z09)|(apply z07;first|apply z08|apply z00|refine z1j ?_)
  all_goals try omega
  all_goals exact z0e func153 _ z0p ⟨rfl,rfl⟩
 | false =>
  rw[zAy (by decide)]
  repeat' first|(apply z05;first|refine z0n ?_| (apply z0a;refine z5j rfl hX rfl rfl rfl rfl (by decide) ?_)|(apply z0c;refine z02 z0i rfl rfl ?_)|(apply z0s;refine z02 (z0w rfl) rfl rfl ?_))|(apply z06;first|refine z0m ?_|apply z09)|(apply z07;first|apply z08|apply z00|refine z15 ?_| apply z04|apply z01)
  all_goals try omega
  refine z0r ?_
  refine z0d (z1o (fun q:Nat × Nat=>⟨35,[(1,I .u64 (S:Nat)),(18,.d (.slice (fo.map n64))),(19,I .i64 fo.length),(20,I .i64 (q.1:Nat)),(7,I .u64 (q.2:Nat))],[],H⟩) (fun q=>q.1≤fo.length∧q.2<2 ^ 64∧nxF S q.1 q.2 (fo.drop q.1)=nxF S 0 0 fo) (fun q=>fo.length-q.1) ?_ (0,0) ⟨zAf _,by decide,rfl⟩) rfl rfl
  rintro⟨q,acc⟩ ⟨i1,i2,i3⟩ ih
  simp only at i1 i2 i3 ih⊢
  by_cases hlt:q<fo.length
  ·obtain⟨x,hx⟩:∃x,fo[q]? =some x:=⟨_,zA0 hlt⟩
   have hxl:=hfx x (zA2 hx)
   rw[drop_cons hx,nxF]at i3
   have hb:=zyi (i:=q) hS (by omega)
   have ho:=y0b i2 hxl
   by_cases ht:S.testBit q=true
   ·rw[zAz ht]at i3 hb
    repeat' first|(apply z05;first|refine z0n ?_| (apply z0a;refine z02 z2f rfl rfl ?_)|(apply z0k;refine z02 (z1a (ys:=fo.map n64) rfl (zxf hx)) rfl rfl ?_)|(apply z0t;first|refine z02 (zgs (by omega)) rfl rfl ?_| refine z02 z8s rfl rfl ?_| refine z02 zb2 rfl rfl ?_| refine z02 (z0z z1h) rfl rfl ?_))|(apply z06;first|refine z0m ?_|apply z09)|(apply z07;first|apply z08|apply z00|apply z04|apply z01|apply z03|refine z0h (fun _=>?_) (fun _=>?_)| refine z0o ?_)
    all_goals try omega
    all_goals (rw[ho];exact z0d (ih (q+1,acc ||| x) ⟨by simp only;omega,Nat.or_lt_two_pow i2 hxl,i3⟩ (by simp only;omega)) rfl rfl)
   ·rw[zAy ht]at i3 hb
    repeat' first|(apply z05;first|refine z0n ?_| (apply z0a;refine z02 z2f rfl rfl ?_)|(apply z0k;refine z02 (z1a (ys:=fo.map n64) rfl (zxf hx)) rfl rfl ?_)|(apply z0t;first|refine z02 (zgs (by omega)) rfl rfl ?_| refine z02 z8s rfl rfl ?_| refine z02 zb2 rfl rfl ?_| refine z02 (z0z z1h) rfl rfl ?_))|(apply z06;first|refine z0m ?_|apply z09)|(apply z07;first|apply z08|apply z00|apply z04|apply z01|apply z03|refine z0h (fun _=>?_) (fun _=>?_)| refine z0o ?_)
    all_goals try omega
    all_goals exact z0d (ih (q+1,acc) ⟨by simp only;omega,i2,i3⟩ (by simp only;omega)) rfl rfl
  ·obtain rfl:q=fo.length:=by omega
   rw[zAs,nxF]at i3
   rw[←i3]
   repeat' first|(apply z05;refine z0n ?_)|(apply z06;first|refine z0m ?_|apply z09)|(apply z07;first|apply z08|apply z00|apply z04|apply z01|refine z0h (fun _=>?_) (fun _=>?_)| refine z0o ?_)
   all_goals try omega
   all_goals exact z0e func153 _ z0p ⟨rfl,rfl⟩
abbrev bbx(Y Z:Nat):Blk:=.box [.ref (0,Y),I .u64 0,I .u64 0,.ref (0,Z),B false]
theorem zbj(a b:Nat):∀(l:List Nat) (i:Nat),(lnk a b i l).length=l.length
 | [],_=>rfl
 | x::l,i=>by rw[lnk,zAk,zAk,zbj a b l]
theorem zbq(a b:Nat):∀(l:List Nat) (i q:Nat) (x:Nat),l[q]? =some x→(lnk a b i l)[q]? =some (if a.testBit (i+q)=true then x ||| b else x)
 | y::l,i,0,x,h=>by simp at h;subst h;rw[lnk];simp
 | y::l,i,q+1,x,h=>by
  rw[List.getElem?_cons_succ]at h
  rw[lnk,List.getElem?_cons_succ,zbq a b l (i+1) q x h,show i+1+q=i+(q+1) by omega]
theorem zv8{L fo:List Nat}{q v x:Nat}(hL:L[q]? =some v)(hx:fo[q]? =some x):(L.take q++fo.drop q).set q v=L.take (q+1)++fo.drop (q+1):=by
 have hq:=(zA1.1 hL).1
 have hl:(L.take q).length=q:=by rw[zAm];omega
 rw[drop_cons hx,z7x hL,zAl,List.set_append_right _ _ (by omega),hl,Nat.sub_self]
 rfl
theorem zpz{P:Program}{f:FuncId}{R:z4b}{k:List Item}{all:Array Oper}{l:List Oper}{n:Nat}{tm:List (Nat × PV)}{hp:Hp}{up:Hf}{ty:TypeId}{pos:String}{aft:Array Edge}{gd:Option (Nat × Bool)}{t e:TypeId}{ti:TI}{x y:Operand}{md ms kk i off:Nat}{p:PV}{ys ys':List (List D)}{z:List D}{ps:List PV}{ds:List D}[ht:z1d P t ti](hev:St.evs ⟨n,tm,hp,up⟩ [x,y]=some [.rptr (md+1,ms) kk i off,p])(hb:up md ms=some (.row e kk ys))(hp':cellsOf p=some ps)(hds:z8d ps=some ds)
 (hz:ys[i]? =some z) (hs:ds.length=ti.size) (hf:decide (off+ds.length≤kk)=true) (hys:ys.set i (z1b z off ds)=ys') (h:Ops P f R all l k ⟨n,tm,hp,upd up (md,ms) (.row e kk ys')⟩):Op1 P f R all ⟨none,.store t x y,ty,pos,aft,gd⟩ l k ⟨n,tm,hp,up⟩ :=
 z9c (m:=(md+1,ms)) hev hb hp' hds hz hs hf hys rfl h
theorem zpp{X Y Z:Nat}(hXZ:X≠Z)(fo:List Nat)(a b:Nat)(ha:a<2 ^ 64)(hb:b<2 ^ 64)(hfo:fo.length≤64)(hfx:∀x∈fo,x<2 ^ 64)(e0:Nat) :
 z1v prog 200 [.ptr (e0,X) 0,I .u64 (a:Nat),I .u64 (b:Nat)] [((e0,X),bbx Y Z),((e0,Z),.row 182 1 (fo.map n64))] [((e0,Z),.row 182 1 ((lnk a b 0 fo).map n64))] (.tup []):=by
 refine z2a fun H hH=>?_
 have hX:H e0 X=some (bbx Y Z):=hH ((e0,X),bbx Y Z) (by simp)
 have hZ:H e0 Z=some (.row 182 1 (fo.map n64)):=hH ((e0,Z),.row 182 1 (fo.map n64)) (by simp)
 have hZ':H (0+e0) Z=some (.row 182 1 (fo.map n64)):=by rw[Nat.zero_add];exact hZ
 have hll:(lnk a b 0 fo).length=fo.length:=zbj a b fo 0
 refine z0g func200 (by kernel_rfl) rfl (by simp) ?_
 dsimp only[f200]
 repeat' first|(apply z05;first|refine z0n ?_| (apply z0a;refine z5j rfl hX rfl rfl rfl rfl (by decide) ?_)|(apply z0c;refine z02 z0i rfl rfl ?_)|(apply z0s;refine z02 (z47 rfl) rfl (bkN hZ') ?_))|(apply z06;first|refine z0m ?_|apply z09)|(apply z07;first|apply z08|apply z00|apply z01)
 all_goals try omega
 refine z0r ?_
 refine y1y (m:=(0+e0,Z)) hZ' ?_
 refine z0d (z1o (fun q:Nat=>⟨31,[(0,.ptr (e0+1,X) 0),(1,I .u64 (a:Nat)),(2,I .u64 (b:Nat)),(11,I .i64 fo.length),(12,I .i64 (q:Nat))],[],upd H (0+e0,Z) (.row 182 1 (((lnk a b 0 fo).take q++fo.drop q).map n64))⟩) (fun q=>q≤fo.length) (fun q=>fo.length-q) ?_ 0 (zAf _)) rfl rfl
 intro q i1 ih
 by_cases hlt:q<fo.length
 ·obtain⟨x,hx⟩:∃x,fo[q]? =some x:=⟨_,zA0 hlt⟩
  have hxl:=hfx x (zA2 hx)
  obtain⟨W,hW⟩:∃W,(lnk a b 0 fo).take q++fo.drop q=W:=⟨_,rfl⟩
  have hWq:W[q]? =some x:=by rw[←hW,zAg (by rw[zAm];omega),zAm,hll,Nat.min_eq_left i1,Nat.sub_self,List.getElem?_drop];exact hx
  have hXW:upd H (0+e0,Z) (.row 182 1 (W.map n64)) e0 X=some (bbx Y Z):=z14 hX (by simp[hXZ])
  have hZW:upd H (0+e0,Z) (.row 182 1 (W.map n64)) (0+e0) Z=some (.row 182 1 (W.map n64)):=z4s _ _ _
  have hWl:W.length=fo.length:=by rw[←hW,zAa,zAm,List.length_drop,hll];omega
  rw[hW]
  have hbt:=zyi (S:=a) (i:=q) ha (by omega)
  have hor:=y0b hxl hb
  have hLg:=zbq a b fo 0 q x hx
  rw[Nat.zero_add]at hLg
  have hst:=zv8 hLg hx
  rw[hW]at hst
  have ih':=ih (q+1) (by omega) (by omega)
  rw[←hst]at ih'
  have hys:(W.map n64).set ((q:Nat):Int).toNat [y0z (orV .u64 (x:Nat) (b:Nat))]=(W.set q (x ||| b)).map n64:=by rw[hor,zA9,List.map_set]
  have hidx:(W.map n64)[((q:Nat):Int).toNat]? =some (n64 x):=zxf hWq
  by_cases ht:a.testBit q=true
  ·rw[zAz ht]at hbt ih'
   repeat' first|(apply z05;first|refine z0n ?_| (apply z0a;first|refine z02 (z96 hidx rfl rfl rfl) rfl (bkN hZW) ?_| refine z5j rfl hXW rfl rfl rfl rfl (by decide) ?_)|(apply z0c;refine z02 z0i rfl rfl ?_)|(apply z0k;refine z02 (z4r rfl (by rw[zA4];omega)) rfl (bkN hZW) ?_)|(apply z0t;first|refine z02 (zgs (by omega)) rfl rfl ?_| refine z02 z8s rfl rfl ?_| refine z02 zb2 rfl rfl ?_| refine z02 (z0z z1h) rfl rfl ?_)|(apply z0f;refine zpz (md:=0+e0) (ms:=Z) rfl hZW rfl rfl hidx rfl rfl hys ?_))|(apply z06;first|refine z0m ?_|apply z09)|(apply z07;first|apply z08|apply z00|apply z04|apply z01|apply z03|refine z0h (fun _=>?_) (fun _=>?_)| refine z0o ?_)
   all_goals try omega
   all_goals (rw[z3l];exact z0d ih' rfl rfl)
  ·rw[zAy ht]at hbt ih'
   have hid:W.set q x=W:=by
    obtain⟨g1,g2⟩:=zA1.1 hWq
    rw[←g2];exact List.set_getElem_self g1
   rw[hid]at ih'
   repeat' first|(apply z05;first|refine z0n ?_| (apply z0c;refine z02 z0i rfl rfl ?_)|(apply z0t;first|refine z02 (zgs (by omega)) rfl rfl ?_| refine z02 z8s rfl rfl ?_| refine z02 (z0z z1h) rfl rfl ?_))|(apply z06;first|refine z0m ?_|apply z09)|(apply z07;first|apply z08|apply z00|apply z04|apply z01|apply z03|refine z0h (fun _=>?_) (fun _=>?_)| refine z0o ?_)
   all_goals exact zD23
 ·obtain rfl:q=fo.length:=by omega
  rw[zAs,List.append_nil,←hll,List.take_length]
  repeat' first|(apply z05;refine z0n ?_)|(apply z06;first|refine z0m ?_|apply z09)|(apply z07;first|apply z08|apply z00|apply z04|apply z01|refine z0h (fun _=>?_) (fun _=>?_)| refine z0o ?_)
  all_goals try omega
  all_goals exact zcc func200 _ (z4j rfl) ⟨rfl,by rw[Nat.zero_add];rfl⟩
theorem zmj{P:Program}{f:FuncId}{R:z4b}{k:List Item}{all:Array Oper}{l:List Oper}{n:Nat}{tm:List (Nat × PV)}{hp:Hp}{up:Hf}{d:Nat}{ty:TypeId}{pos:String}{aft:Array Edge}{gd:Option (Nat × Bool)}{p:PV}{g:FuncId}{args:List Operand}{ps:List PV}{ats:Array TypeId}{md m1 m2:Nat}{b1 b2 b':Blk}
 (hsp:z1v P g ps [((md+1,m1),b1),((md+1,m2),b2)] [((md+1,m2),b')] p) (hev:St.evs ⟨n,tm,hp,up⟩ args=some ps) (h1:up md m1=some b1) (h2:up md m2=some b2) (hd:d<n)
 (h:Ops P f R all l k ⟨n,(d,p)::tm,hp,upd up (md,m2) b'⟩):Op1 P f R all ⟨some d,.call ⟨.value (.func g),args.toArray,ats⟩,ty,pos,aft,gd⟩ l k ⟨n,tm,hp,up⟩ :=
 zj7 hsp hev (z2j (m:=(md+1,m1)) h1 (z2j (m:=(md+1,m2)) h2 z8m)) hd rfl h
abbrev ptc(p:Pt):List D:=[y0z (p.f:Nat),y0z (p.l:Nat),zji p.nu]
theorem zj6{X Y Z:Nat}(hXZ:X≠Z)(fo:List Nat)(a b:Pt)(ha1:a.f<2 ^ 64)(ha2:a.l<2 ^ 64)(hb1:b.f<2 ^ 64)(hb2:b.l<2 ^ 64)(hfo:fo.length≤64)(hfx:∀x∈fo,x<2 ^ 64)(lv:List (List Rg))(e0:Nat) :
 z1v prog 188 [.ptr (e0,X) 0,.d (.agg (ptc a)),.d (.agg (ptc b))] [((e0,X),bbx Y Z),((e0,Z),.row 182 1 (fo.map n64))] [((e0,Z),.row 182 1 ((lnk a.l b.f 0 fo).map n64))] (.d (.agg (ptc (z9s a b ⟨lv,fo⟩).2))):=by
 refine z2a fun H hH=>?_
 have hX:H e0 X=some (bbx Y Z):=hH ((e0,X),bbx Y Z) (by simp)
 have hZ:H e0 Z=some (.row 182 1 (fo.map n64)):=hH ((e0,Z),.row 182 1 (fo.map n64)) (by simp)
 have hl:=zpp (X:=X) (Y:=Y) (Z:=Z) hXZ fo a.l b.f ha2 hb1 hfo hfx (e0+1)
 have ho1:=y0b ha1 hb1
 have ho2:=y0b hb2 ha2
 obtain⟨af,al,an⟩:=a
 obtain⟨bf,bl,bn⟩:=b
 refine z0g func188 (by kernel_rfl) rfl (by simp) ?_
 dsimp only[f188,z9s]
 simp only at hl ho1 ho2
 cases an <;> cases bn <;> skip
 all_goals (try simp only[if_true,if_false,Bool.false_eq_true])
 all_goals (try rw[←ho1]) 
 all_goals (try rw[←ho2])
 ·repeat' (first|(apply z05;first|refine z0n ?_| (apply z0a;first|refine z02 z16 rfl rfl ?_| refine z02 z1y rfl rfl ?_)|(apply z0c;refine z02 z0i rfl rfl ?_)|(apply z0j;refine zmj hl rfl hX hZ (by decide) ?_)|(apply z0f;refine z25 ?_)|(apply z0l;refine z0b z2e ?_)|(apply z18;refine z0b z1m ?_)|(apply z1n;refine z2y ?_))|(apply z06;first|refine z0m ?_|apply z09|refine z1g ?_)|(apply z07;first|apply z08|apply z00|refine z15 ?_| apply z04))
  all_goals exact zD19
 ·repeat' (first|(apply z05;first|refine z0n ?_| (apply z0a;first|refine z02 z16 rfl rfl ?_| refine z02 z1y rfl rfl ?_)|(apply z0c;refine z02 z0i rfl rfl ?_)|(apply z0t;refine z02 zb2 rfl rfl ?_)|(apply z0j;refine zmj hl rfl hX hZ (by decide) ?_)|(apply z0f;refine z25 ?_)|(apply z0l;refine z0b z2e ?_)|(apply z18;refine z0b z1m ?_)|(apply z1n;refine z2y ?_))|(apply z06;first|refine z0m ?_|apply z09|refine z1g ?_)|(apply z07;first|apply z08|apply z00|refine z1j ?_| refine z15 ?_| apply z04))
  all_goals exact zD19
 ·repeat' (first|(apply z05;first|refine z0n ?_| (apply z0a;first|refine z02 z16 rfl rfl ?_| refine z02 z1y rfl rfl ?_)|(apply z0c;refine z02 z0i rfl rfl ?_)|(apply z0t;refine z02 zb2 rfl rfl ?_)|(apply z0j;refine zmj hl rfl hX hZ (by decide) ?_)|(apply z0f;refine z25 ?_)|(apply z0l;refine z0b z2e ?_)|(apply z18;refine z0b z1m ?_)|(apply z1n;refine z2y ?_))|(apply z06;first|refine z0m ?_|apply z09)|(apply z07;first|apply z08|apply z00|refine z1j ?_| refine z15 ?_| apply z04))
  all_goals exact zD19
 ·repeat' (first|(apply z05;first|refine z0n ?_| (apply z0a;first|refine z02 z16 rfl rfl ?_| refine z02 z1y rfl rfl ?_)|(apply z0c;refine z02 z0i rfl rfl ?_)|(apply z0t;refine z02 zb2 rfl rfl ?_)|(apply z0j;refine zmj hl rfl hX hZ (by decide) ?_)|(apply z0f;refine z25 ?_)|(apply z0l;refine z0b z2e ?_)|(apply z18;refine z0b z1m ?_)|(apply z1n;refine z2y ?_))|(apply z06;first|refine z0m ?_|apply z09)|(apply z07;first|apply z08|apply z00|refine z1j ?_))
  all_goals exact zD19
attribute [local irreducible] zal
abbrev lv1(r:List Rg):List D:=[rgs r]
abbrev lvr(lv:List (List Rg)):Blk:=.row 110 1 (lv.map lv1)
abbrev fwr(fo:List Nat):Blk:=.row 182 1 (fo.map n64)
abbrev bks(t:Tb):List (Nm × Blk):=[((0,600),bbx 601 602),((0,601),lvr t.lv),((0,602),fwr t.fo)]
abbrev hks(t:Tb):List (Nm × Blk):=[((0,600),.gone),((0,601),.gone),((0,602),.gone),((0,603),lvr t.lv),((0,604),fwr t.fo),((0,600),bbx 603 604)]
abbrev zjm(g:FuncId)(args:List PV)(t:Tb)(r:Tb × Pt):Prop:=zal prog g (.ptr (0,600) 0::args) (bks t) (hks r.1) (.d (.agg (ptc r.2))) 603 604
abbrev KB(e:Rx):Prop:=∀t:Tb,Sm t→(t.lv.length:Int)+pn e≤64→zjm 172 [.d (Drx e)] t (bd e t)
theorem z4d(op mn mx:Int)(rs:List Rg)(ks:List Rx):Drx (.mk op mn mx rs ks)=.agg (rx5 op mn mx rs ks):=congrArg D.agg (z3i op mn mx rs ks)
theorem zf6(e:Rx)(hv:vns e=true)(hk:KB e):∀(n:Nat) (t:Tb),Sm t→n≤16→(t.lv.length:Int)+n*pn e≤64→zjm 201 [.d (Drx e),I .i64 (n:Nat)] t (opt (bd e) n t)
 | 0,t,hs,hn,hl=>by
  obtain⟨op,mn,mx,rs,ks⟩:=e
  rw[z4d]
  refine zai fun H hH hG1 hG2 hQ1 hQ2=>?_
  have hH0:=hH ((0,600),bbx 601 602) (by simp)
  have hH1:=hH ((0,601),lvr t.lv) (by simp)
  have hH2:=hH ((0,602),fwr t.fo) (by simp)
  refine z4y func201 (by kernel_rfl) rfl (by simp) ?_
  dsimp only[f201]
  refine z57 600 0 600 hH0 rfl rfl ?_
  refine z50 601 0 601 (z14 hH1 (by simp)) rfl rfl ?_
  refine z50 602 0 602 (z14 (z14 hH2 (by simp)) (by simp)) rfl rfl ?_
  refine z4z 100601 rfl ?_
  refine z4z 100602 rfl ?_
  repeat' first|(apply z05;first|refine z0n ?_| (apply z0f;refine z25 ?_)|(apply z0l;refine z0b z2e ?_)|(apply z18;refine z0b z1m ?_)|(apply z1n;refine z2y ?_))|(apply z06;first|refine z0m ?_|apply z09)|(apply z07;first|apply z08|apply z00|refine z1j ?_)
  all_goals try omega
  all_goals refine z3x 601 603 rfl (z14 (z14 (z14 hG1 (by simp)) (by simp)) (by simp)) (Or.inl rfl) rfl (Quiet.upd (Quiet.upd (Quiet.upd hQ1 rfl) rfl) rfl) ?_
  all_goals refine z3x 602 604 rfl (z14 (z14 (z14 (z14 hG2 (by simp)) (by simp)) (by simp)) (by simp)) (Or.inr rfl) rfl (Quiet.upd (Quiet.upd (Quiet.upd (Quiet.upd hQ2 rfl) rfl) rfl) rfl) ?_
  all_goals refine z3s 600 0 600 (raw:=bbx 603 604) rfl rfl rfl rfl rfl ?_
  refine z0e func201 _ (z1x rfl rfl rfl rfl rfl rfl) ⟨rfl,rfl⟩
 | n+1,t,hs,hn,hl=>by
  have hko:=y0y hv
  have h0:=zeu.1 e hv
  have hnP:0≤(n:Int)*pn e:=Int.mul_nonneg (by omega) h0
  have ee:((n+1:Nat):Int)*pn e=n*pn e+pn e:=by rw[show((n+1:Nat):Int)=(n:Int)+1 by omega,Int.add_mul,Int.one_mul]
  rw[ee]at hl
  have hbl:=hko.bl t hs.len
  have hfw:=hko.few t hs.len
  obtain⟨s1,pf,pl⟩:=hbl.sm hs (by omega)
  have hos:=zd3 hko h0 n (bd e t).1 s1.len
  obtain⟨s2,qf,ql⟩:=hos.1.sm s1 (by omega)
  have hk1:=hk t hs (by omega)
  have ho:=zf6 e hv hk n (bd e t).1 s1 (by omega) (by omega)
  have hcc:=zj6 (X:=600) (Y:=603) (Z:=604) (by decide) (opt (bd e) n (bd e t).1).1.fo (bd e t).2 (opt (bd e) n (bd e t).1).2 pf pl qf ql (by rw[s2.len];omega) s2.sm (opt (bd e) n (bd e t).1).1.lv 0
  have hn1:((n+1:Nat):Int)-1=(n:Nat):=by omega
  have hnu:=zwh (b:=bd e) n (bd e t).1
  rw[opt]
  generalize hE:opt (bd e) n (bd e t).1=r2 at *
  generalize hB:bd e t=r1 at *
  obtain⟨t2,p2⟩:=r2
  obtain⟨t1,p1⟩:=r1
  obtain⟨op,mn,mx,rs,ks⟩:=e
  rw[z4d]at hk1 ho⊢
  dsimp only[zjm,hks]at hk1 ho
  rw[←hn1]at ho
  have e1:(t.lv.map lv1).length=t.lv.length:=zA4 _
  have e2:(t1.lv.map lv1).length=t1.lv.length:=zA4 _
  refine zai fun H hH hG1 hG2 hQ1 hQ2=>?_
  have hH0:=hH ((0,600),bbx 601 602) (by simp)
  have hH1:=hH ((0,601),lvr t.lv) (by simp)
  have hH2:=hH ((0,602),fwr t.fo) (by simp)
  refine z4y func201 (by kernel_rfl) rfl (by simp) ?_
  dsimp only[f201]
  refine z57 600 0 600 hH0 rfl rfl ?_
  refine z50 601 0 601 (z14 hH1 (by simp)) rfl rfl ?_
  refine z50 602 0 602 (z14 (z14 hH2 (by simp)) (by simp)) rfl rfl ?_
  refine z4z 100601 rfl ?_
  refine z4z 100602 rfl ?_
  simp only[same,zA3]at *
  by_cases hsm:t1.lv.length=t.lv.length
  ·rw[zAz hsm]
   repeat' first|(apply z05;first|refine z9v hk1 rfl rfl rfl (by decide) rfl rfl rfl (by decide) rfl rfl rfl rfl ?_|refine z0n ?_| (apply z0a;first|refine z02 z1r rfl rfl ?_| refine z02 z16 rfl rfl ?_)|(apply z0c;refine z02 z0i rfl rfl ?_)|(apply z0s;refine z02 (z6g rfl) rfl rfl ?_)|(apply z0f;refine z25 ?_)|(apply z0l;refine z0b z2e ?_)|(apply z18;refine z0b z1m ?_)|(apply z1n;refine z2y ?_))|(apply z06;first|refine z0m ?_|apply z09)|(apply z07;first|apply z08|apply z00|refine z15 ?_| apply z04|apply z2o|refine z0h (fun _=>?_) fun _=>?_)|(apply z2m;first|refine z2w ?_| (apply z0v;refine z0x z1y rfl rfl ?_)|(apply z3p;refine z0x (z2l z1h) rfl rfl ?_))
   all_goals try omega
   all_goals refine z3x 601 603 rfl (z14 (z14 (z14 hG1 (by simp)) (by simp)) (by simp)) (Or.inl rfl) rfl (Quiet.upd (Quiet.upd (Quiet.upd hQ1 rfl) rfl) rfl) ?_
   all_goals refine z3x 602 604 rfl (z14 (z14 (z14 (z14 hG2 (by simp)) (by simp)) (by simp)) (by simp)) (Or.inr rfl) rfl (Quiet.upd (Quiet.upd (Quiet.upd (Quiet.upd hQ2 rfl) rfl) rfl) rfl) ?_
   all_goals refine z3s 600 0 600 (raw:=bbx 603 604) rfl rfl rfl rfl rfl ?_
   all_goals refine z0e func201 _ (z1x rfl rfl rfl rfl rfl rfl) ⟨rfl,rfl⟩
  ·rw[zAy hsm]
   repeat' first|(apply z05;first|refine z9v hk1 rfl rfl rfl (by decide) rfl rfl rfl (by decide) rfl rfl rfl rfl ?_|refine z0n ?_| (apply z0a;first|refine z02 z1r rfl rfl ?_| refine z02 z16 rfl rfl ?_| refine z02 z1y rfl rfl ?_)|(apply z0c;refine z02 z0i rfl rfl ?_)|(apply z0s;refine z02 (z6g rfl) rfl rfl ?_)|(apply z0f;refine z25 ?_)|(apply z0l;refine z0b z2e ?_)|(apply z18;refine z0b z1m ?_)|(apply z1n;refine z2y ?_))|(apply z06;first|refine z0m ?_|apply z09)|(apply z07;first|apply z08|apply z00|refine z15 ?_| apply z04|apply z2o|refine z0h (fun _=>?_) fun _=>?_)|(apply z2m;first|(apply z1e;refine z2c mix ?_)|refine y0o ho (by first|exact rfl|exact⟨_,rfl,rfl,rfl⟩) rfl rfl rfl (by decide) rfl rfl rfl (by decide) ?_|refine z2w ?_| (apply z0v;refine z0x z1y rfl rfl ?_)|(apply z3p;refine z0x (z2l z1h) rfl rfl ?_)|(apply z1s;refine zk1 hcc (by first|exact rfl|exact⟨_,rfl,rfl,rfl⟩) rfl rfl rfl (by decide) ?_)|(apply z2r;refine z6i (by first|exact rfl|exact⟨_,rfl,rfl,rfl⟩) rfl rfl rfl rfl rfl rfl ?_)|(apply zmo;refine zrc (by first|exact rfl|exact⟨_,rfl,rfl,rfl⟩) rfl rfl (by decide) ?_))
   all_goals try omega
   all_goals refine z3x 603 603 rfl (z14 (z14 (z14 hG1 (by simp)) (by simp)) (by simp)) (Or.inl rfl) rfl (Quiet.upd (Quiet.upd (Quiet.upd hQ1 rfl) rfl) rfl) ?_
   all_goals refine z3x 604 604 rfl (z14 (z14 (z14 (z14 hG2 (by simp)) (by simp)) (by simp)) (by simp)) (Or.inr rfl) rfl (Quiet.upd (Quiet.upd (Quiet.upd (Quiet.upd hQ2 rfl) rfl) rfl) rfl) ?_
   all_goals refine z3s 600 0 600 (raw:=bbx 603 604) rfl rfl rfl rfl rfl ?_
   refine z0e func201 _ (z1x rfl rfl rfl rfl rfl rfl) ⟨rfl,rfl⟩
abbrev U3(H:Hf):Hf:=upd (upd (upd H (0,600) .gone) (0,601) .gone) (0,602) .gone
abbrev ptb(p:Pt):Blk:=.box [.d (y0z (p.f:Nat)),.d (y0z (p.l:Nat)),.d (zji p.nu)]
abbrev y6i(op mn mx:Int)(rs:List Rg)(c:List D):List D:=[z2g op,z2g mn,z2g mx,rgs rs,.slice [c]]
theorem y05(op mn mx:Int)(rs:List Rg)(ok mk xk:Int)(rk:List Rg)(kk:List Rx):rx5 op mn mx rs [.mk ok mk xk rk kk]=y6i op mn mx rs (rx5 ok mk xk rk kk):=by
 show [z2g op,z2g mn,z2g mx,rgs rs,.slice [rxc (.mk ok mk xk rk kk)]]=_
 rw[z3i]
theorem y16(op mn mx:Int)(rs:List Rg)(k:Rx)(hvk:vns k=true)(hk:KB k)(h0:0≤mn)(h16:mn≤16)(hm:mx=-1∨(mn≤mx∧mx≤16))(t:Tb)(hs:Sm t)(hl:(t.lv.length:Int)+rep mn mx (pn k)≤64) :
 zjm 189 [.d (Drx (.mk op mn mx rs [k]))] t (rp (bd k) mn mx t):=by
 have hko:=y0y hvk
 have hP:=zeu.1 k hvk
 have hrep:mn*pn k≤rep mn mx (pn k):=by
  rw[rep]
  split
  ·rw[Int.mul_comm];exact Int.mul_le_mul_of_nonneg_left (by omega) hP
  ·rw[Int.mul_comm];exact Int.mul_le_mul_of_nonneg_left (by omega) hP
 obtain⟨r,hr⟩:∃r,rpl (bd k) (decide (mx<0)) mn.toNat t ptE=r:=⟨_,rfl⟩
 obtain⟨F,hF⟩:∃F,rp (bd k) mn mx t=F:=⟨_,rfl⟩
 have hF':=hF
 rw[rp]at hF'
 simp only[hr]at hF'
 rw[hF]
 obtain⟨ok,mk,xk,rk,kk⟩:=k
 rw[z4d,y05]
 refine zai fun H hH hG1 hG2 hQ1 hQ2=>?_
 have hH0:=hH ((0,600),bbx 601 602) (by simp)
 have hH1:=hH ((0,601),lvr t.lv) (by simp)
 have hH2:=hH ((0,602),fwr t.fo) (by simp)
 refine z4y func189 (by kernel_rfl) rfl (by simp) ?_
 dsimp only[f189]
 refine z57 600 0 600 hH0 rfl rfl ?_
 refine z50 601 0 601 (z14 hH1 (by simp)) rfl rfl ?_
 refine z50 602 0 602 (z14 (z14 hH2 (by simp)) (by simp)) rfl rfl ?_
 refine z4z 100601 rfl ?_
 refine z4z 100602 rfl ?_
 repeat' first|(apply z05;first|refine z0n ?_| (apply z0a;refine z02 z16 rfl rfl ?_)|(apply z0c;refine z02 z0i rfl rfl ?_)|(apply z0f;refine z25 ?_)|(apply z0l;refine z0b z2e ?_)|(apply z18;refine z0b z1m ?_)|(apply z1n;refine z2y ?_))|(apply z06;first|refine z0m ?_|apply z09)|(apply z07;first|apply z08|apply z00|apply z01)
 refine z0r ?_
 refine z0d (z1o (fun q:Nat × Tb × Pt=>⟨98,[(0,.ptr (0,600) 0),(3,.ptr (0,3) 0),(4,.ptr (0,4) 0),(5,.ptr (0,5) 0),(11,I .i64 mn),(12,I .i64 (q.1:Nat)),(100600,.al (0,600) (1,600))],[(3,.box ((y6i op mn mx rs (rx5 ok mk xk rk kk)).map .d)),(4,ptb ptN),(5,ptb q.2.2),(600,bbx 601 602),(601,lvr q.2.1.lv),(602,fwr q.2.1.fo)],U3 H⟩)
  (fun q=>q.1≤mn.toNat∧rpl (bd (.mk ok mk xk rk kk)) (decide (mx<0)) (mn.toNat-q.1) q.2.1 q.2.2=r∧(∃Z,Bl O1 Z t q.2.1 q.2.2)∧(q.2.1.lv.length:Int)+((mn.toNat-q.1:Nat):Int)*pn (.mk ok mk xk rk kk)≤t.lv.length+mn*pn (.mk ok mk xk rk kk)) (fun q=>mn.toNat-q.1) ?_ (0,t,ptE) ⟨zAf _,hr,⟨_,Bl.eps (Ex.refl hs.len)⟩,by simp only[Nat.sub_zero];rw[show((mn.toNat:Nat):Int)=mn by omega];exact Int.le_refl _⟩) rfl rfl
 rintro⟨i,t',p⟩ ⟨i1,i2,⟨Z,i3⟩,i4⟩ ih
 simp only at i1 i2 i3 i4 ih⊢
 have hnn:0≤((mn.toNat-i:Nat):Int)*pn (.mk ok mk xk rk kk):=Int.mul_nonneg (by omega) hP
 obtain⟨s1,pf,pl⟩:=i3.sm hs (by omega)
 by_cases hlt:i<mn.toNat
 ·obtain⟨n',hn⟩:∃n',mn.toNat-i=n'+1:=⟨mn.toNat-i-1,by omega⟩
  have hn2:mn.toNat-(i+1)=n':=by omega
  have hbl:=hko.bl t' s1.len
  have hfw:=hko.few t' s1.len
  have hnn2:0≤(n':Int)*pn (.mk ok mk xk rk kk):=Int.mul_nonneg (by omega) hP
  rw[hn,show((n'+1:Nat):Int)=(n':Int)+1 by omega,Int.add_mul,Int.one_mul]at i4
  obtain⟨s2,qf,ql⟩:=hbl.sm s1 (by omega)
  have hk1:=hk t' s1 (by omega)
  rw[hn,rpl]at i2
  generalize hB:bd (.mk ok mk xk rk kk) t'=r1 at *
  obtain⟨t1,q⟩:=r1
  have hfw2:(t1.lv.length:Int)≤t'.lv.length+pn (.mk ok mk xk rk kk):=hfw
  rw[z4d]at hk1
  dsimp only[zjm,hks]at hk1
  simp only[same,zA3]at i2
  have e1:(t'.lv.map lv1).length=t'.lv.length:=zA4 _
  have e2:(t1.lv.map lv1).length=t1.lv.length:=zA4 _
  by_cases hsm:t1.lv.length=t'.lv.length
  ·rw[zAz hsm]at i2
   have hFF:F=(t1,ptE):=by
    rw[←hF',←i2];rfl
   rw[hFF]
   repeat' first|(apply z05;first|refine z9v hk1 rfl rfl rfl (by decide) rfl rfl rfl (by decide) rfl rfl rfl rfl ?_|refine z0n ?_| (apply z0a;first|refine z02 z16 rfl rfl ?_| refine z02 z1w rfl rfl ?_| refine z02 z1y rfl rfl ?_)|(apply z0c;refine z02 z0i rfl rfl ?_)|(apply z0k;refine z02 (z5h (ys:=[rx5 ok mk xk rk kk]) rfl) rfl rfl ?_)|(apply z0t;refine z02 (z2l z1h) rfl rfl ?_)|(apply z0s;refine z02 (z6g rfl) rfl rfl ?_)|(apply z0f;refine z25 ?_)|(apply z0l;refine z0b z2e ?_)|(apply z1n;refine z2y ?_))|(apply z06;first|refine z0m ?_|apply z09|refine z1g ?_| refine z1p (fun _=>?_) fun _=>?_)|(apply z07;first|apply z08|apply z00|refine z15 ?_| apply z04|apply z01|apply z2o|apply z03|refine z0h (fun _=>?_) (fun _=>?_)| refine z0o ?_)|(apply z2m;first|refine z2w ?_| (apply z0v;first|refine z0x z16 rfl rfl ?_| refine z0x z1w rfl rfl ?_| refine z0x z1y rfl rfl ?_)|(apply z0u;refine z0x z0i rfl rfl ?_)|(apply z1i;refine z0x (z5h (ys:=[rx5 ok mk xk rk kk]) rfl) rfl rfl ?_)|(apply z3p;refine z0x (z2l z1h) rfl rfl ?_))
   all_goals exact zD7
  ·rw[zAy hsm]at i2
   by_cases hpl:mx<0∧n'=0
   ·rw[zAz (by simp[hpl.1,hpl.2])]at i2
    have hbp:=hbl.plus
    obtain⟨s3,_,_⟩:=hbp.sm s1 (by show t1.lv.length≤64;omega)
    have hlk:=zpp (X:=600) (Y:=601) (Z:=602) (by decide) t1.fo q.l q.f ql qf (by rw[s2.len];omega) s2.sm 0
    have hcc:=zj6 (X:=600) (Y:=601) (Z:=602) (by decide) (lnk q.l q.f 0 t1.fo) p q pf pl qf ql (by have:=s3.len;show(link t1 q.l q.f).fo.length≤64;rw[this];show t1.lv.length≤64;omega) s3.sm t1.lv 0
    have ih':=ih (i+1,(z9s p q (link t1 q.l q.f)).1,(z9s p q (link t1 q.l q.f)).2) ⟨by simp only;omega,by simp only;rw[hn2];exact i2,⟨_,i3.cat hbp⟩,by simp only;rw[hn2];show(t1.lv.length:Int)+_≤_;omega⟩ (by simp only;omega)
    repeat' first|(apply z05;first|refine z9v hk1 rfl rfl rfl (by decide) rfl rfl rfl (by decide) rfl rfl rfl rfl ?_|refine z0n ?_| (apply z0a;first|refine z02 z16 rfl rfl ?_| refine z02 z1w rfl rfl ?_| refine z02 z1y rfl rfl ?_)|(apply z0c;refine z02 z0i rfl rfl ?_)|(apply z0k;refine z02 (z5h (ys:=[rx5 ok mk xk rk kk]) rfl) rfl rfl ?_)|(apply z0t;first|refine z02 (z0z z1h) rfl rfl ?_| refine z02 (z2l z1h) rfl rfl ?_)|(apply z0s;refine z02 (z6g rfl) rfl rfl ?_)|(apply z0j;first|refine zgm hlk rfl rfl rfl (by decide) ?_|refine zgm hcc rfl rfl rfl (by decide) ?_)|(apply z0f;refine z25 ?_)|(apply z0l;refine z0b z2e ?_)|(apply z1n;refine z2y ?_))|(apply z06;first|refine z0m ?_|apply z09|refine z1g ?_| refine z1p (fun _=>?_) fun _=>?_)|(apply z07;first|apply z08|apply z00|refine z15 ?_| apply z04|apply z01|apply z2o|apply z03|refine z0h (fun _=>?_) (fun _=>?_)| refine z0o ?_)|(apply z2m;first|refine z2w ?_| (apply z0v;first|refine z0x z16 rfl rfl ?_| refine z0x z1w rfl rfl ?_| refine z0x z1y rfl rfl ?_)|(apply z0u;refine z0x z0i rfl rfl ?_)|(apply z1i;refine z0x (z5h (ys:=[rx5 ok mk xk rk kk]) rfl) rfl rfl ?_)|(apply z3p;refine z0x (z2l z1h) rfl rfl ?_))
    all_goals exact zD23
   ·rw[zAy (by simpa using hpl)]at i2
    have hcc:=zj6 (X:=600) (Y:=601) (Z:=602) (by decide) t1.fo p q pf pl qf ql (by rw[s2.len];omega) s2.sm t1.lv 0
    have ih':=ih (i+1,(z9s p q t1).1,(z9s p q t1).2) ⟨by simp only;omega,by simp only;rw[hn2];exact i2,⟨_,i3.cat hbl⟩,by simp only;rw[hn2];show(t1.lv.length:Int)+_≤_;omega⟩ (by simp only;omega)
    repeat' first|(apply z05;first|refine z9v hk1 rfl rfl rfl (by decide) rfl rfl rfl (by decide) rfl rfl rfl rfl ?_|refine z0n ?_| (apply z0a;first|refine z02 z16 rfl rfl ?_| refine z02 z1w rfl rfl ?_| refine z02 z1y rfl rfl ?_)|(apply z0c;refine z02 z0i rfl rfl ?_)|(apply z0k;refine z02 (z5h (ys:=[rx5 ok mk xk rk kk]) rfl) rfl rfl ?_)|(apply z0t;first|refine z02 (z0z z1h) rfl rfl ?_| refine z02 (z2l z1h) rfl rfl ?_)|(apply z0s;refine z02 (z6g rfl) rfl rfl ?_)|(apply z0j;refine zgm hcc rfl rfl rfl (by decide) ?_)|(apply z0f;refine z25 ?_)|(apply z0l;refine z0b z2e ?_)|(apply z1n;refine z2y ?_))|(apply z06;first|refine z0m ?_|apply z09|refine z1g ?_| refine z1p (fun _=>?_) fun _=>?_)|(apply z07;first|apply z08|apply z00|refine z15 ?_| apply z04|apply z01|apply z2o|apply z03|refine z0h (fun _=>?_) (fun _=>?_)| refine z0o ?_)|(apply z2m;first|refine z2w ?_| (apply z0v;first|refine z0x z16 rfl rfl ?_| refine z0x z1w rfl rfl ?_| refine z0x z1y rfl rfl ?_)|(apply z0u;refine z0x z0i rfl rfl ?_)|(apply z1i;refine z0x (z5h (ys:=[rx5 ok mk xk rk kk]) rfl) rfl rfl ?_)|(apply z3p;refine z0x (z2l z1h) rfl rfl ?_))
    all_goals exact zD23
 ·obtain rfl:i=mn.toNat:=by omega
  rw[Nat.sub_self,rpl]at i2
  rw[←i2]at hF'
  simp only[Bool.false_eq_true,if_false]at hF'
  rw[Nat.sub_self]at i4
  have i4':(t'.lv.length:Int)≤t.lv.length+mn*pn (.mk ok mk xk rk kk):=by simpa using i4
  by_cases hA:mx<0∧mn=0
  ·rw[zAz hA]at hF'
   have hre:rep mn mx (pn (.mk ok mk xk rk kk))=pn (.mk ok mk xk rk kk):=by
    rw[rep,zAz (by omega),hA.2,show max (0:Int) 1=1 by decide,Int.mul_one]
   rw[hre]at hl
   rw[hA.2,Int.zero_mul]at i4'
   have hbl:=hko.bl t' s1.len
   have hfw:=hko.few t' s1.len
   obtain⟨s2,qf,ql⟩:=hbl.sm s1 (by omega)
   have hk1:=hk t' s1 (by omega)
   generalize hB:bd (.mk ok mk xk rk kk) t'=r1 at *
   obtain⟨t1,q⟩:=r1
   have hfw2:(t1.lv.length:Int)≤t'.lv.length+pn (.mk ok mk xk rk kk):=hfw
   rw[z4d]at hk1
   dsimp only[zjm,hks]at hk1
   have hlk:=zpp (X:=600) (Y:=601) (Z:=602) (by decide) t1.fo q.l q.f ql qf (by rw[s2.len];omega) s2.sm 0
   rw[←hF']
   repeat' first|(apply z05;first|refine z9v hk1 rfl rfl rfl (by decide) rfl rfl rfl (by decide) rfl rfl rfl rfl ?_|refine z0n ?_| (apply z0a;first|refine z02 z16 rfl rfl ?_| refine z02 z1w rfl rfl ?_| refine z02 z1y rfl rfl ?_)|(apply z0c;refine z02 z0i rfl rfl ?_)|(apply z0k;refine z02 (z5h (ys:=[rx5 ok mk xk rk kk]) rfl) rfl rfl ?_)|(apply z0t;refine z02 (z2l z1h) rfl rfl ?_)|(apply z0s;refine z02 (z47 rfl) rfl rfl ?_)|(apply z0j;refine zgm hlk rfl rfl rfl (by decide) ?_)|(apply z0f;refine z25 ?_)|(apply z0l;refine z0b z2e ?_)|(apply z1n;refine z2y ?_))|(apply z06;first|refine z0m ?_|apply z09|refine z1g ?_| refine z1p (fun _=>?_) fun _=>?_)|(apply z07;first|apply z08|apply z00|refine z15 ?_| apply z04|apply z01|apply z2o|apply z03|refine z0h (fun _=>?_) (fun _=>?_)| refine z0o ?_)|(apply z2m;first|refine z2w ?_| (apply z0v;first|refine z0x z16 rfl rfl ?_| refine z0x z1w rfl rfl ?_| refine z0x z1y rfl rfl ?_)|(apply z0u;refine z0x z0i rfl rfl ?_)|(apply z1i;refine z0x (z5h (ys:=[rx5 ok mk xk rk kk]) rfl) rfl rfl ?_)|(apply z3p;refine z0x (z2l z1h) rfl rfl ?_))
   all_goals exact zD7
  ·rw[zAy hA]at hF'
   by_cases hC:mn<mx
   ·rw[zAz hC]at hF'
    have hre:rep mn mx (pn (.mk ok mk xk rk kk))=mn*pn (.mk ok mk xk rk kk)+((mx-mn).toNat:Int)*pn (.mk ok mk xk rk kk):=by
     rw[rep,zAy (by omega),←Int.add_mul,Int.mul_comm];congr 1;omega
    have ho:=zf6 (.mk ok mk xk rk kk) hvk hk (mx-mn).toNat t' s1 (by omega) (by omega)
    have hos:=zd3 hko hP (mx-mn).toNat t' s1.len
    obtain⟨s2,qf,ql⟩:=hos.1.sm s1 (by omega)
    generalize hB:opt (bd (.mk ok mk xk rk kk)) (mx-mn).toNat t'=r1 at *
    obtain⟨t1,q⟩:=r1
    have hfw2:(t1.lv.length:Int)≤t'.lv.length+((mx-mn).toNat:Int)*pn (.mk ok mk xk rk kk):=hos.2
    have hcc:=zj6 (X:=600) (Y:=603) (Z:=604) (by decide) t1.fo p q pf pl qf ql (by rw[s2.len];omega) s2.sm t1.lv 0
    rw[z4d,show(((mx-mn).toNat:Nat):Int)=mx-mn by omega]at ho
    dsimp only[zjm,hks]at ho
    rw[←hF']
    repeat' first|(apply z05;first|refine z0n ?_| (apply z0a;first|refine z02 z16 rfl rfl ?_| refine z02 z1w rfl rfl ?_| refine z02 z1y rfl rfl ?_)|(apply z0c;refine z02 z0i rfl rfl ?_)|(apply z0k;refine z02 (z5h (ys:=[rx5 ok mk xk rk kk]) rfl) rfl rfl ?_)|(apply z0s;refine z02 (z47 rfl) rfl rfl ?_)|(apply z0f;refine z25 ?_))|(apply z06;first|refine z0m ?_|apply z09|refine z1g ?_| refine z1p (fun _=>?_) fun _=>?_)|(apply z07;first|apply z08|apply z00|refine z15 ?_| apply z04|apply z01|apply z2o|apply z03|refine z0h (fun _=>?_) (fun _=>?_)| refine z0o ?_)|(apply z2m;first|(apply z1e;refine z2c mix ?_)|refine y0o ho (by first|exact rfl|exact⟨_,rfl,rfl,rfl⟩) rfl rfl rfl (by decide) rfl rfl rfl (by decide) ?_|refine z2w ?_| (apply z0v;first|refine z0x z16 rfl rfl ?_| refine z0x z1w rfl rfl ?_| refine z0x z1y rfl rfl ?_)|(apply z0u;refine z0x z0i rfl rfl ?_)|(apply z1i;refine z0x (z5h (ys:=[rx5 ok mk xk rk kk]) rfl) rfl rfl ?_)|(apply z3p;refine z0x (z2l z1h) rfl rfl ?_)|(apply z1s;refine zk1 hcc (by first|exact rfl|exact⟨_,rfl,rfl,rfl⟩) rfl rfl rfl (by decide) ?_)|(apply z2r;refine z6i (by first|exact rfl|exact⟨_,rfl,rfl,rfl⟩) rfl rfl rfl rfl rfl rfl ?_))
    all_goals try omega
    all_goals refine z3x 603 603 rfl (z14 (z14 (z14 hG1 (by simp)) (by simp)) (by simp)) (Or.inl rfl) rfl (Quiet.upd (Quiet.upd (Quiet.upd hQ1 rfl) rfl) rfl) ?_
    all_goals refine z3x 604 604 rfl (z14 (z14 (z14 (z14 hG2 (by simp)) (by simp)) (by simp)) (by simp)) (Or.inr rfl) rfl (Quiet.upd (Quiet.upd (Quiet.upd (Quiet.upd hQ2 rfl) rfl) rfl) rfl) ?_
    all_goals refine z3s 600 0 600 (raw:=bbx 603 604) rfl rfl rfl rfl rfl ?_
    all_goals refine z0e func189 _ (z1x rfl rfl rfl rfl rfl rfl) ⟨rfl,rfl⟩
   ·rw[zAy hC]at hF'
    rw[←hF']
    repeat' first|(apply z05;first|refine z0n ?_| (apply z0a;first|refine z02 z16 rfl rfl ?_| refine z02 z1y rfl rfl ?_)|(apply z0c;refine z02 z0i rfl rfl ?_)|(apply z0s;refine z02 (z47 rfl) rfl rfl ?_)|(apply z0f;refine z25 ?_))|(apply z06;first|refine z0m ?_|apply z09|refine z1g ?_| refine z1p (fun _=>?_) fun _=>?_)|(apply z07;first|apply z08|apply z00|refine z15 ?_| apply z04|apply z01|apply z2o|apply z03|refine z0h (fun _=>?_) (fun _=>?_)| refine z0o ?_)|(apply z2m;first|refine z2w ?_| (apply z0v;first|refine z0x z16 rfl rfl ?_| refine z0x z1y rfl rfl ?_)|(apply z0u;refine z0x z0i rfl rfl ?_))
    all_goals exact zD7
theorem zgd:∀ {ks:List Rx},zee ks=true→∀i,0≤pnL (ks.drop i)
 | ks,h,0=>zeu.2 ks h
 | [],h,i+1=>Int.le_refl _
 | k::ks,h,i+1=>by
  rw[zee,zA7]at h
  exact zgd h.2 i
theorem zt6(mn mx:Int)(rs:List Rg)(ks:List Rx)(t:Tb)(hs:Sm t)(hl:(t.lv.length:Int)+1≤64):zjm 172 [.d (Drx (.mk 1 mn mx rs ks))] t (bd (.mk 1 mn mx rs ks) t):=by
 rw[bd,zAz rfl,z4d]
 have hsh:=y3y (i:=t.lv.length) (by omega)
 have e1:(t.lv.map lv1).length=t.lv.length:=zA4 _
 have e2:=hs.len
 refine zai fun H hH hG1 hG2 hQ1 hQ2=>?_
 have hH0:=hH ((0,600),bbx 601 602) (by simp)
 have hH1:=hH ((0,601),lvr t.lv) (by simp)
 have hH2:=hH ((0,602),fwr t.fo) (by simp)
 refine z4y func172 (by kernel_rfl) rfl (by simp) ?_
 dsimp only[f172]
 refine z57 600 0 600 hH0 rfl rfl ?_
 refine z50 601 0 601 (z14 hH1 (by simp)) rfl rfl ?_
 refine z50 602 0 602 (z14 (z14 hH2 (by simp)) (by simp)) rfl rfl ?_
 refine z4z 100601 rfl ?_
 refine z4z 100602 rfl ?_
 repeat' (first | (apply z05; (first | refine z0n ?_| (apply z0a; (refine z02 z16 rfl rfl ?_)) | (apply z0c; (refine z02 z0i rfl rfl ?_)) | (apply z0t; (refine z02 (zvd (by omega)) rfl rfl ?_)) | (apply z0s; (first | refine z99 (g := n64) 0 rfl ?_| refine z02 (z6g rfl) rfl rfl ?_)) | (apply z0f; (refine z25 ?_)) | (apply z0l; (refine z0b z2e ?_)) | (apply z18; (refine z0b z1m ?_)) | (apply z1n; (refine z2y ?_)) | (apply z3c; (refine z3b rfl ?_)))) | (apply z06; (first | refine z0m ?_ | apply z09)) | (apply z07; (first | apply z08 | apply z00 | refine z1j ?_| apply z01 | apply z2o)) | (apply z2m; (first | refine z2w ?_| (apply z0v; (refine z0x z16 rfl rfl ?_)) | (apply z0u; (refine z0x z0i rfl rfl ?_)) | (apply z3v; (refine zao (g := lv1) (by first | exact rfl | exact ⟨_, rfl, rfl, rfl⟩) rfl rfl rs rfl rfl rfl rfl rfl rfl rfl (by decide) (by omega) ?_)) | (apply z2r; ((refine zbb mix (by kernel_rfl) ?_) /- zbt -/)) | (apply z6y; (refine z7w rfl ?_)))))
 all_goals try omega
 all_goals refine z3x 31 603 rfl (z14 (z14 (z14 hG1 (by simp)) (by simp)) (by simp)) (Or.inl rfl) rfl (Quiet.upd (Quiet.upd (Quiet.upd hQ1 rfl) rfl) rfl) ?_
 all_goals refine z3x 40 604 rfl (z14 (z14 (z14 (z14 hG2 (by simp)) (by simp)) (by simp)) (by simp)) (Or.inr rfl) rfl (Quiet.upd (Quiet.upd (Quiet.upd (Quiet.upd hQ2 rfl) rfl) rfl) rfl) ?_
 all_goals refine z3s 600 0 600 (raw:=bbx 603 604) rfl rfl rfl rfl rfl ?_
 refine z0e func172 _ (z1x rfl rfl rfl rfl rfl rfl) ⟨by dsimp only[ptc];rw[←hsh,←e1];rfl,rfl⟩
theorem bd2(mn mx:Int)(rs:List Rg)(ks:List Rx)(t:Tb):bd (.mk 2 mn mx rs ks) t=bdC ks t ptE:=by rw[bd,zAy (by decide),zAz rfl]
theorem bd3(mn mx:Int)(rs:List Rg)(ks:List Rx)(t:Tb):bd (.mk 3 mn mx rs ks) t=bdU ks t ptN:=by rw[bd,zAy (by decide),zAy (by decide),zAz rfl]
theorem zvm(mn mx:Int)(rs:List Rg)(ks:List Rx)(hlen:ks.length≤9223372036854775807)(hv:zee ks=true)(hk:∀k∈ks,KB k)(t:Tb)(hs:Sm t)(hl:(t.lv.length:Int)+pnL ks≤64):zjm 172 [.d (Drx (.mk 2 mn mx rs ks))] t (bd (.mk 2 mn mx rs ks) t):=by
 rw[bd2,z4d]
 obtain⟨F,hF⟩:∃F,bdC ks t ptE=F:=⟨_,rfl⟩
 rw[hF]
 refine zai fun H hH hG1 hG2 hQ1 hQ2=>?_
 have hH0:=hH ((0,600),bbx 601 602) (by simp)
 have hH1:=hH ((0,601),lvr t.lv) (by simp)
 have hH2:=hH ((0,602),fwr t.fo) (by simp)
 refine z4y func172 (by kernel_rfl) rfl (by simp) ?_
 dsimp only[f172]
 refine z57 600 0 600 hH0 rfl rfl ?_
 refine z50 601 0 601 (z14 hH1 (by simp)) rfl rfl ?_
 refine z50 602 0 602 (z14 (z14 hH2 (by simp)) (by simp)) rfl rfl ?_
 refine z4z 100601 rfl ?_
 refine z4z 100602 rfl ?_
 repeat' first|(apply z05;first|refine z0n ?_| (apply z0a;refine z02 z16 rfl rfl ?_)|(apply z0c;refine z02 z0i rfl rfl ?_)|(apply z0s;refine z02 (z0w rfl) rfl rfl ?_)|(apply z0f;refine z25 ?_)|(apply z0l;refine z0b z2e ?_)|(apply z18;refine z0b z1m ?_)|(apply z1n;refine z2y ?_))|(apply z06;first|refine z0m ?_|apply z09)|(apply z07;first|apply z08|apply z00|refine z1j ?_| refine z15 ?_| apply z01)
 all_goals try omega
 refine z0r ?_
 refine z0d (z1o (fun q:Nat × Tb × Pt=>⟨98,[(0,.ptr (0,600) 0),(3,.ptr (0,3) 0),(4,.ptr (0,4) 0),(6,.ptr (0,6) 0),(50,.d (.slice (ks.map rxc))),(51,I .i64 ks.length),(52,I .i64 (q.1:Nat)),(100600,.al (0,600) (1,600))],[(4,ptb ptN),(6,ptb q.2.2),(600,bbx 601 602),(601,lvr q.2.1.lv),(602,fwr q.2.1.fo)],U3 H⟩)
  (fun q=>q.1≤ks.length∧bdC (ks.drop q.1) q.2.1 q.2.2=F∧(∃Z,Bl O1 Z t q.2.1 q.2.2)∧(q.2.1.lv.length:Int)+pnL (ks.drop q.1)≤64) (fun q=>ks.length-q.1) ?_ (0,t,ptE) ⟨zAf _,hF,⟨_,Bl.eps (Ex.refl hs.len)⟩,hl⟩) rfl rfl
 rintro⟨i,t',p⟩ ⟨i1,i2,⟨Z,i3⟩,i4⟩ ih
 simp only at i1 i2 i3 i4 ih⊢
 by_cases hlt:i<ks.length
 ·obtain⟨k,hki⟩:∃k,ks[i]? =some k:=⟨_,zA0 hlt⟩
  have hmem:=zA2 hki
  have hvk:=z5g hv k hmem
  have hP:=zeu.1 k hvk
  have hPr:0≤pnL (ks.drop (i+1)):=zgd hv (i+1)
  rw[drop_cons hki,pnL]at i4
  rw[drop_cons hki,bdC]at i2
  obtain⟨s1,pf,pl⟩:=i3.sm hs (by omega)
  have hko:=y0y hvk
  have hbl:=hko.bl t' s1.len
  have hfw:=hko.few t' s1.len
  obtain⟨s2,qf,ql⟩:=hbl.sm s1 (by omega)
  have hk1:=hk k hmem t' s1 (by omega)
  generalize hB:bd k t'=r1 at *
  obtain⟨t1,q⟩:=r1
  have hfw2:(t1.lv.length:Int)≤t'.lv.length+pn k:=hfw
  obtain⟨ok,mk,xk,rk,kk⟩:=k
  rw[z4d]at hk1
  dsimp only[zjm,hks]at hk1
  have hcc:=zj6 (X:=600) (Y:=603) (Z:=604) (by decide) t1.fo p q pf pl qf ql (by rw[s2.len];omega) s2.sm t1.lv 0
  have ih':=ih (i+1,(z9s p q t1).1,(z9s p q t1).2) ⟨by simp only;omega,i2,⟨_,i3.cat hbl⟩,by show(t1.lv.length:Int)+_≤_;simp only;omega⟩ (by simp only;omega)
  repeat' first|(apply z05;first|refine z0n ?_| (apply z0a;first|refine z02 z1w rfl rfl ?_| refine z02 z1y rfl rfl ?_)|(apply z0k;refine z02 (z1a (ys:=ks.map rxc) rfl (z62 hki)) rfl rfl ?_)|(apply z0t;refine z02 (z0z z1h) rfl rfl ?_)|(apply z0f;refine z25 ?_)|(apply z0l;refine z0b z2e ?_))|(apply z06;first|refine z0m ?_|apply z09)|(apply z07;first|apply z08|apply z00|apply z04|apply z01|apply z2o|apply z03|refine z0h (fun _=>?_) (fun _=>?_)| refine z0o ?_)|(apply z2m;first|(apply z1e;refine z2c mix ?_)|refine y0o hk1 (by first|exact rfl|exact⟨_,rfl,rfl,rfl⟩) rfl rfl rfl (by decide) rfl rfl rfl (by decide) ?_|refine z2w ?_| (apply z0v;refine z0x z1y rfl rfl ?_)|(apply z1s;refine zk1 hcc (by first|exact rfl|exact⟨_,rfl,rfl,rfl⟩) rfl rfl rfl (by decide) ?_)|(apply z2r;refine z6i (by first|exact rfl|exact⟨_,rfl,rfl,rfl⟩) rfl rfl rfl rfl rfl rfl ?_))
  all_goals try omega
  all_goals refine z4n 603 601 rfl rfl ?_
  all_goals refine z4n 604 602 rfl rfl ?_
  all_goals exact z0d ih' rfl rfl
 ·obtain rfl:i=ks.length:=by omega
  rw[zAs,bdC]at i2
  exact zD48
theorem zuj(mn mx:Int)(rs:List Rg)(ks:List Rx)(hlen:ks.length≤9223372036854775807)(hv:zee ks=true)(hk:∀k∈ks,KB k)(t:Tb)(hs:Sm t)(hl:(t.lv.length:Int)+pnL ks≤64):zjm 172 [.d (Drx (.mk 3 mn mx rs ks))] t (bd (.mk 3 mn mx rs ks) t):=by
 rw[bd3,z4d]
 obtain⟨F,hF⟩:∃F,bdU ks t ptN=F:=⟨_,rfl⟩
 rw[hF]
 refine zai fun H hH hG1 hG2 hQ1 hQ2=>?_
 have hH0:=hH ((0,600),bbx 601 602) (by simp)
 have hH1:=hH ((0,601),lvr t.lv) (by simp)
 have hH2:=hH ((0,602),fwr t.fo) (by simp)
 refine z4y func172 (by kernel_rfl) rfl (by simp) ?_
 dsimp only[f172]
 refine z57 600 0 600 hH0 rfl rfl ?_
 refine z50 601 0 601 (z14 hH1 (by simp)) rfl rfl ?_
 refine z50 602 0 602 (z14 (z14 hH2 (by simp)) (by simp)) rfl rfl ?_
 refine z4z 100601 rfl ?_
 refine z4z 100602 rfl ?_
 repeat' first|(apply z05;first|refine z0n ?_| (apply z0a;refine z02 z16 rfl rfl ?_)|(apply z0c;refine z02 z0i rfl rfl ?_)|(apply z0s;refine z02 (z0w rfl) rfl rfl ?_)|(apply z0l;refine z0b z2e ?_)|(apply z18;refine z0b z1m ?_))|(apply z06;first|refine z0m ?_|apply z09)|(apply z07;first|apply z08|apply z00|refine z1j ?_| refine z15 ?_| apply z01)
 all_goals try omega
 refine z0r ?_
 refine z0d (z1o (fun q:Nat × Tb × Pt=>⟨98,[(0,.ptr (0,600) 0),(3,.ptr (0,3) 0),(4,.ptr (0,4) 0),(9,.ptr (0,9) 0),(67,.d (.slice (ks.map rxc))),(68,I .i64 ks.length),(69,I .i64 (q.1:Nat)),(100600,.al (0,600) (1,600))],[(4,ptb ptN),(9,ptb q.2.2),(600,bbx 601 602),(601,lvr q.2.1.lv),(602,fwr q.2.1.fo)],U3 H⟩)
  (fun q=>q.1≤ks.length∧bdU (ks.drop q.1) q.2.1 q.2.2=F∧(∃Z,Bl O1 Z t q.2.1 q.2.2)∧(q.2.1.lv.length:Int)+pnL (ks.drop q.1)≤64) (fun q=>ks.length-q.1) ?_ (0,t,ptN) ⟨zAf _,hF,⟨_,Bl.none (Ex.refl hs.len)⟩,hl⟩) rfl rfl
 rintro⟨i,t',p⟩ ⟨i1,i2,⟨Z,i3⟩,i4⟩ ih
 simp only at i1 i2 i3 i4 ih⊢
 by_cases hlt:i<ks.length
 ·obtain⟨k,hki⟩:∃k,ks[i]? =some k:=⟨_,zA0 hlt⟩
  have hmem:=zA2 hki
  have hvk:=z5g hv k hmem
  have hP:=zeu.1 k hvk
  have hPr:0≤pnL (ks.drop (i+1)):=zgd hv (i+1)
  rw[drop_cons hki,pnL]at i4
  rw[drop_cons hki,bdU]at i2
  obtain⟨s1,pf,pl⟩:=i3.sm hs (by omega)
  have hko:=y0y hvk
  have hbl:=hko.bl t' s1.len
  have hfw:=hko.few t' s1.len
  obtain⟨s2,qf,ql⟩:=hbl.sm s1 (by omega)
  have hk1:=hk k hmem t' s1 (by omega)
  generalize hB:bd k t'=r1 at *
  obtain⟨t1,q⟩:=r1
  have hfw2:(t1.lv.length:Int)≤t'.lv.length+pn k:=hfw
  obtain⟨ok,mk,xk,rk,kk⟩:=k
  rw[z4d]at hk1
  dsimp only[zjm,hks]at hk1
  have ih':=ih (i+1,t1,por p q) ⟨by simp only;omega,i2,⟨_,i3.or hbl⟩,by simp only;omega⟩ (by simp only;omega)
  obtain⟨qf',ql',qn⟩:=q
  obtain⟨pf',pl',pnn⟩:=p
  dsimp only[por,ptb]at ih' qf ql pf pl⊢
  have ho1:=y0b pf qf
  have ho2:=y0b pl ql
  cases pnn with
  | true =>
   rw[Bool.true_or]at ih'
   repeat' first|(apply z05;first|refine z9v hk1 rfl rfl rfl (by decide) rfl rfl rfl (by decide) rfl rfl rfl rfl ?_|refine z0n ?_| (apply z0a;first|refine z02 z16 rfl rfl ?_| refine z02 z1w rfl rfl ?_| refine z02 z1y rfl rfl ?_)|(apply z0c;refine z02 z0i rfl rfl ?_)|(apply z0k;refine z02 (z1a (ys:=ks.map rxc) rfl (z62 hki)) rfl rfl ?_)|(apply z0t;first|refine z02 zb2 rfl rfl ?_| refine z02 (z0z z1h) rfl rfl ?_)|(apply z0f;refine z25 ?_)|(apply z0l;refine z0b z2e ?_)|(apply z1n;refine z2y ?_))|(apply z06;first|refine z0m ?_|apply z09|refine z1g ?_)|(apply z07;first|apply z08|apply z00|apply z04|apply z01|apply z03|refine z0h (fun _=>?_) (fun _=>?_)| refine z0o ?_)
   all_goals try omega
   all_goals (rw[←ho1,←ho2]at ih';exact z0d ih' rfl rfl)
  | false =>
   rw[Bool.false_or]at ih'
   repeat' first|(apply z05;first|refine z9v hk1 rfl rfl rfl (by decide) rfl rfl rfl (by decide) rfl rfl rfl rfl ?_|refine z0n ?_| (apply z0a;first|refine z02 z16 rfl rfl ?_| refine z02 z1w rfl rfl ?_| refine z02 z1y rfl rfl ?_)|(apply z0c;refine z02 z0i rfl rfl ?_)|(apply z0k;refine z02 (z1a (ys:=ks.map rxc) rfl (z62 hki)) rfl rfl ?_)|(apply z0t;first|refine z02 zb2 rfl rfl ?_| refine z02 (z0z z1h) rfl rfl ?_)|(apply z0f;refine z25 ?_)|(apply z0l;refine z0b z2e ?_)|(apply z1n;refine z2y ?_))|(apply z06;first|refine z0m ?_|apply z09)|(apply z07;first|apply z08|apply z00|apply z04|apply z01|apply z03|refine z0h (fun _=>?_) (fun _=>?_)| refine z0o ?_)
   all_goals try omega
   all_goals (rw[←ho1,←ho2]at ih';exact z0d ih' rfl rfl)
 ·obtain rfl:i=ks.length:=by omega
  rw[zAs,bdU]at i2
  exact zD48
theorem ztc(op mn mx:Int)(rs:List Rg)(ks:List Rx)(h1:op≠1)(h2:op≠2)(h3:op≠3)(t:Tb)(r:Tb × Pt)(hr:zjm 189 [.d (Drx (.mk op mn mx rs ks))] t r):zjm 172 [.d (Drx (.mk op mn mx rs ks))] t r:=by
 rw[z4d]at hr⊢
 dsimp only[zjm,hks]at hr
 refine zai fun H hH hG1 hG2 hQ1 hQ2=>?_
 have hH0:=hH ((0,600),bbx 601 602) (by simp)
 have hH1:=hH ((0,601),lvr t.lv) (by simp)
 have hH2:=hH ((0,602),fwr t.fo) (by simp)
 refine z4y func172 (by kernel_rfl) rfl (by simp) ?_
 dsimp only[f172]
 refine z57 600 0 600 hH0 rfl rfl ?_
 refine z50 601 0 601 (z14 hH1 (by simp)) rfl rfl ?_
 refine z50 602 0 602 (z14 (z14 hH2 (by simp)) (by simp)) rfl rfl ?_
 refine z4z 100601 rfl ?_
 refine z4z 100602 rfl ?_
 repeat' first|(apply z05;first|refine z9v hr rfl rfl rfl (by decide) rfl rfl rfl (by decide) rfl rfl rfl rfl ?_|refine z0n ?_| (apply z0a;first|refine z02 z1r rfl rfl ?_| refine z02 z16 rfl rfl ?_)|(apply z0c;refine z02 z0i rfl rfl ?_)|(apply z0s;first|refine z02 (z0w rfl) rfl rfl ?_| refine z02 (z47 rfl) rfl rfl ?_)|(apply z0f;refine z25 ?_)|(apply z0l;refine z0b z2e ?_)|(apply z18;refine z0b z1m ?_)|(apply z1n;refine z2y ?_))|(apply z06;first|refine z0m ?_|apply z09)|(apply z07;first|apply z08|apply z00|apply z04|apply z01|apply z03|refine z0h (fun _=>?_) fun _=>?_)
 all_goals exact zD9
theorem zzq:∀e:Rx,vns e=true→fit e→KB e:=by
 refine Rx.ind' fun op mn mx rs ks ih hv hf t hs hl=>?_
 rw[vns,zA7]at hv
 rw[fit]at hf
 have ih':∀k∈ks,KB k:=fun k hk=>ih k hk (z5g hv.2 k hk) (z5z hf.2.2 k hk)
 have hvn:=hv.1
 rw[vn]at hvn
 by_cases h1:op=1
 ·subst h1
  rw[Rx.pn,zAz rfl]at hl
  exact zt6 mn mx rs ks t hs hl
 rw[zAy h1]at hvn
 by_cases h2:op=2
 ·subst h2
  rw[Rx.pn,zAy (by decide),zAy (by decide)]at hl
  exact zvm mn mx rs ks hf.2.1 hv.2 ih' t hs hl
 rw[zAy h2]at hvn
 by_cases h3:op=3
 ·subst h3
  rw[Rx.pn,zAy (by decide),zAy (by decide)]at hl
  exact zuj mn mx rs ks hf.2.1 hv.2 ih' t hs hl
 rw[zAy h3]at hvn
 by_cases h4:op=4
 ·subst h4
  rw[zAz rfl]at hvn
  simp only[zA7,zAu,zA3]at hvn
  obtain⟨⟨⟨⟨a1,a2⟩,a3⟩,a4⟩,a5⟩:=hvn
  match ks,a2,ih',hv,hl with
  | [k],_,ih',hv,hl =>
   have hvk:=z5g hv.2 k (by simp)
   rw[Rx.pn,zAy (by decide),zAz rfl,pnL,pnL,Int.add_zero]at hl
   have hb:bd (.mk 4 mn mx rs [k]) t=rp (bd k) mn mx t:=by
    rw[bd,zAy (by decide),zAy (by decide),zAy (by decide)]
    have:(fun t=>bd1 [k] t)=bd k:=by funext t;rw[bd1]
    rw[this]
   rw[hb]
   exact ztc 4 mn mx rs [k] (by decide) (by decide) (by decide) t _ (y16 4 mn mx rs k hvk (ih' k (by simp)) a3 a4 a5 t hs hl)
 ·rw[zAy h4]at hvn;cases hvn
abbrev tb0:Tb:=⟨[],[]⟩
abbrev ofB(e:Rx):Blk:=tbx (bd e tb0).1.lv (bd e tb0).2.f (bd e tb0).2.l (bd e tb0).1.fo (bd e tb0).2.nu
theorem y6v(e:Rx)(hv:vns e=true)(hf:fit e)(hp:Rx.pn e≤64)(H:Hf):Ab.Spec prog 152 [.d (Drx e)] H (fun r H'=>r=.new (ofB e)∧H'=H):=by
 have hk:=zzq e hv hf tb0 ⟨rfl,by simp⟩ (by simp;exact hp)
 dsimp only[ofB]
 generalize hB:bd e tb0=r1 at *
 obtain⟨⟨lv,fo⟩,p⟩:=r1
 obtain⟨op,mn,mx,rs,ks⟩:=e
 rw[z4d]at hk⊢
 dsimp only[zjm,hks]at hk
 refine z0g func152 (by kernel_rfl) rfl (by simp) ?_
 dsimp only[f152]
 repeat' first|(apply z05;first|refine z9v hk rfl rfl rfl (by decide) rfl rfl rfl (by decide) rfl rfl rfl rfl ?_|refine z0n ?_| (apply z0a;refine z02 z1y rfl rfl ?_)|(apply z0f;refine z25 ?_)|(apply z0l;refine z0b z2e ?_)|(apply z18;first|(refine z0b z43 ?_;refine zjc 6 600 rfl rfl ?_;refine zfn 600 0 601 110 1 rfl rfl rfl rfl ?_;refine zfn 600 3 602 182 1 rfl rfl rfl rfl ?_)|refine z0b z1m ?_)|(apply z1n;refine z2y ?_))|(apply z06;first|refine z0m ?_|apply z09)|(apply z07;first|apply z08|apply z00|apply z2o)|(apply z2m;first|(apply z1e;refine z2c mix ?_)|refine z2w ?_| (apply z0v;refine z0x z16 rfl rfl ?_)|(apply z0u;refine z0x z0i rfl rfl ?_)|(apply z2r;refine z6i (by first|exact rfl|exact⟨_,rfl,rfl,rfl⟩) rfl rfl rfl rfl rfl rfl ?_))
 all_goals try omega
 refine z1f 601 rfl ?_
 refine z1f 602 rfl ?_
 refine z0e func152 _ (zl2 (ms:=600) rfl rfl rfl rfl) ⟨rfl,rfl⟩
end Go.Proofs.YtonhfccmeammbaaGreatDoor
