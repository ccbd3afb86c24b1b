/- A part. -/
import Derived.Test.YtmcggompdmngmaaGreatDoorXt
set_option linter.all false
open Go.Proofs.Tryz
namespace Go.Proofs.YtmcggompdmngmaaGreatDoor
open Go.Ab Go.Rx
set_option maxHeartbeats 20000000
set_option maxRecDepth 100000
attribute [local irreducible] Run Ops Op1 z0y Val Tr z0a z0u NF Rel z27 z29
abbrev n64(x:Nat):List D:=[y2l (x:Nat)]
abbrev lvs(l:List (List Rg)):D:=.slice (l.map fun r=>[rgs r])
abbrev tbx(lv:List (List Rg))(f l:Nat)(fo:List Nat)(nu:Bool):Blk:=.box [.d (lvs lv),I .u64 (f:Nat),I .u64 (l:Nat),.d (.slice (fo.map n64)),B nu]
theorem y3e{l:List Nat}{k:Nat}{x:Nat}(h:l[k]? =some x):(l.map n64)[((k:Nat):Int).toNat]? =some (n64 x):=by simp[h]
theorem zpk{X:Nat}(lv:List (List Rg))(f l:Nat)(fo:List Nat)(nu:Bool)(S:Nat)(hS:S<2 ^ 64)(hfo:fo.length≤64)(hfx:∀x∈fo,x<2 ^ 64)(beg:Bool)(e0:Nat) :
 z0u prog 55 [.ptr (e0,X) 0,I .u64 (S:Nat),B beg] [((e0,X),tbx lv f l fo nu)] [] (I .u64 ((if beg=true then f else nxF S 0 0 fo:Nat):Int)):=by
 refine z0v fun H hH=>?_
 have hX:H e0 X=some (tbx lv f l fo nu):=hH ((e0,X),tbx lv f l fo nu) (by simp)
 refine z05 func55 (by kernel_rfl) rfl (by simp) ?_
 dsimp only[f55]
 cases beg with
 | true =>
  rw[zAz rfl]
  repeat' first|(apply z1f;refine zcl hX ?_)|refine z04 ?_|fail
  all_goals try omega
  all_goals exact z03 func55 _ z1h ⟨rfl,rfl⟩
 | false =>
  rw[zAy (by decide)]
  repeat' first|(apply z1f;refine zcl hX ?_)|refine z04 ?_|fail
  all_goals try omega
  refine z0f ?_
  refine z00 (z0s (fun q:Nat × Nat=>⟨35,[(1,I .u64 (S:Nat)),(18,.d (.slice (fo.map n64))),(19,I .i64 fo.length),(20,I .i64 (q.1:Nat)),(7,I .u64 (q.2:Nat))],[],H⟩) (fun q=>q.1≤fo.length∧q.2<2 ^ 64∧nxF S q.1 q.2 (fo.drop q.1)=nxF S 0 0 fo) (fun q=>fo.length-q.1) ?_ (0,0) ⟨zAf _,by decide,rfl⟩) rfl rfl
  rintro⟨q,acc⟩ ⟨i1,i2,i3⟩ ih
  simp only at i1 i2 i3 ih⊢
  by_cases hlt:q<fo.length
  ·obtain⟨x,hx⟩:∃x,fo[q]? =some x:=⟨_,zA0 hlt⟩
   have hxl:=hfx x (zA2 hx)
   rw[drop_cons hx,nxF]at i3
   have hb:=ztv (i:=q) hS (by omega)
   have ho:=y2k i2 hxl
   by_cases ht:S.testBit q=true
   ·rw[zAz ht]at i3 hb
    repeat' first|(apply z01;refine z07 (z11 (ys:=fo.map n64) rfl (y3e hx)) rfl rfl ?_)|(apply z0t;first|refine z07 (z99 (by omega)) rfl rfl ?_| refine z07 z4r rfl rfl ?_| refine z07 zc7 rfl rfl ?_)|refine z04 ?_|refine fk (fun _=>?_) fun _=>?_
    all_goals try omega
    all_goals (rw[ho];exact z00 (ih (q+1,acc ||| x) ⟨by simp only;omega,Nat.or_lt_two_pow i2 hxl,i3⟩ (by simp only;omega)) rfl rfl)
   ·rw[zAy ht]at i3 hb
    repeat' first|(apply z01;refine z07 (z11 (ys:=fo.map n64) rfl (y3e hx)) rfl rfl ?_)|(apply z0t;first|refine z07 (z99 (by omega)) rfl rfl ?_| refine z07 z4r rfl rfl ?_| refine z07 zc7 rfl rfl ?_)|refine z04 ?_|refine fk (fun _=>?_) fun _=>?_
    all_goals try omega
    all_goals exact z00 (ih (q+1,acc) ⟨by simp only;omega,i2,i3⟩ (by simp only;omega)) rfl rfl
  ·obtain rfl:q=fo.length:=by omega
   rw[zAs,nxF]at i3
   rw[←i3]
   repeat' first|refine z04 ?_|refine fk (fun _=>?_) fun _=>?_
   all_goals try omega
   all_goals exact z03 func55 _ z1h ⟨rfl,rfl⟩
abbrev bbx(Y Z:Nat):Blk:=.box [.ref (0,Y),I .u64 0,I .u64 0,.ref (0,Z),B false]
theorem zap(a b:Nat):∀(l:List Nat) (i:Nat),(lnk a b i l).length=l.length
 | [],_=>rfl
 | x::l,i=>by rw[lnk,zAk,zAk,zap a b l]
theorem zbn(a b:Nat):∀(l:List Nat) (i q:Nat) (x:Nat),l[q]? =some x→(lnk a b i l)[q]? =some (if a.testBit (i+q)=true then x ||| b else x)
 | y::l,i,0,x,h=>by simp at h;subst h;rw[lnk];simp
 | y::l,i,q+1,x,h=>by
  rw[List.getElem?_cons_succ]at h
  rw[lnk,List.getElem?_cons_succ,zbn a b l (i+1) q x h,show i+1+q=i+(q+1) by omega]
theorem y0f{L fo:List Nat}{q v x:Nat}(hL:L[q]? =some v)(hx:fo[q]? =some x):(L.take q++fo.drop q).set q v=L.take (q+1)++fo.drop (q+1):=by
 have hq:=(zA1.1 hL).1
 have hl:(L.take q).length=q:=by rw[zAm];omega
 rw[drop_cons hx,z5i hL,zAl,List.set_append_right _ _ (by omega),hl,Nat.sub_self]
 rfl
theorem zrs{P:Program}{f:FuncId}{R:z2y}{k:List Item}{all:Array Oper}{l:List Oper}{n:Nat}{tm:List (Nat × PV)}{hp:Hp}{up:Hf}{ty:TypeId}{pos:String}{aft:Array Edge}{gd:Option (Nat × Bool)}{t e:TypeId}{ti:TI}{x y:Operand}{md ms kk i off:Nat}{p:PV}{ys ys':List (List D)}{z:List D}{ps:List PV}{ds:List D}[ht:z0n P t ti](hev:St.evs ⟨n,tm,hp,up⟩ [x,y]=some [.rptr (md+1,ms) kk i off,p])(hb:up md ms=some (.row e kk ys))(hp':cellsOf p=some ps)(hds:z8d ps=some ds)
 (hz:ys[i]? =some z) (hs:ds.length=ti.size) (hf:decide (off+ds.length≤kk)=true) (hys:ys.set i (z0g z off ds)=ys') (h:Ops P f R all l k ⟨n,tm,hp,upd up (md,ms) (.row e kk ys')⟩):Op1 P f R all ⟨none,.store t x y,ty,pos,aft,gd⟩ l k ⟨n,tm,hp,up⟩ :=
 zpe (m:=(md+1,ms)) hev hb hp' hds hz hs hf hys rfl h
theorem zv0{X Y Z:Nat}(hXZ:X≠Z)(fo:List Nat)(a b:Nat)(ha:a<2 ^ 64)(hb:b<2 ^ 64)(hfo:fo.length≤64)(hfx:∀x∈fo,x<2 ^ 64)(e0:Nat) :
 z0u prog 167 [.ptr (e0,X) 0,I .u64 (a:Nat),I .u64 (b:Nat)] [((e0,X),bbx Y Z),((e0,Z),.row 108 1 (fo.map n64))] [((e0,Z),.row 108 1 ((lnk a b 0 fo).map n64))] (.tup []):=by
 refine z0v fun H hH=>?_
 have hX:H e0 X=some (bbx Y Z):=hH ((e0,X),bbx Y Z) (by simp)
 have hZ:H e0 Z=some (.row 108 1 (fo.map n64)):=hH ((e0,Z),.row 108 1 (fo.map n64)) (by simp)
 have hZ':H (0+e0) Z=some (.row 108 1 (fo.map n64)):=by rw[Nat.zero_add];exact hZ
 have hll:(lnk a b 0 fo).length=fo.length:=zap a b fo 0
 refine z05 func167 (by kernel_rfl) rfl (by simp) ?_
 dsimp only[f167]
 repeat' first|(apply z1f;refine zcl hX ?_)|(apply z14;refine z07 (z18 rfl) rfl (bkN hZ') ?_)|refine z04 ?_|fail
 all_goals try omega
 refine z0f ?_
 refine yas (m:=(0+e0,Z)) hZ' ?_
 refine z00 (z0s (fun q:Nat=>⟨31,[(0,.ptr (e0+1,X) 0),(1,I .u64 (a:Nat)),(2,I .u64 (b:Nat)),(11,I .i64 fo.length),(12,I .i64 (q:Nat))],[],upd H (0+e0,Z) (.row 108 1 (((lnk a b 0 fo).take q++fo.drop q).map n64))⟩) (fun q=>q≤fo.length) (fun q=>fo.length-q) ?_ 0 (zAf _)) rfl rfl
 intro q i1 ih
 by_cases hlt:q<fo.length
 ·obtain⟨x,hx⟩:∃x,fo[q]? =some x:=⟨_,zA0 hlt⟩
  have hxl:=hfx x (zA2 hx)
  obtain⟨W,hW⟩:∃W,(lnk a b 0 fo).take q++fo.drop q=W:=⟨_,rfl⟩
  have hWq:W[q]? =some x:=by rw[←hW,zAg (by rw[zAm];omega),zAm,hll,Nat.min_eq_left i1,Nat.sub_self,List.getElem?_drop];exact hx
  have hXW:upd H (0+e0,Z) (.row 108 1 (W.map n64)) e0 X=some (bbx Y Z):=z08 hX (by simp[hXZ])
  have hZW:upd H (0+e0,Z) (.row 108 1 (W.map n64)) (0+e0) Z=some (.row 108 1 (W.map n64)):=z1g _ _ _
  have hWl:W.length=fo.length:=by rw[←hW,zAa,zAm,List.length_drop,hll];omega
  rw[hW]
  have hbt:=ztv (S:=a) (i:=q) ha (by omega)
  have hor:=y2k hxl hb
  have hLg:=zbn a b fo 0 q x hx
  rw[Nat.zero_add]at hLg
  have hst:=y0f hLg hx
  rw[hW]at hst
  have ih':=ih (q+1) (by omega) (by omega)
  rw[←hst]at ih'
  have hys:(W.map n64).set ((q:Nat):Int).toNat [y2l (orV .u64 (x:Nat) (b:Nat))]=(W.set q (x ||| b)).map n64:=by rw[hor,zA9,List.map_set]
  have hidx:(W.map n64)[((q:Nat):Int).toNat]? =some (n64 x):=y3e hWq
  by_cases ht:a.testBit q=true
  ·rw[zAz ht]at hbt ih'
   repeat' first|(apply z1f;first|refine z07 (zhd hidx rfl rfl rfl) rfl (bkN hZW) ?_| refine zcl hXW ?_)|(apply z01;refine z07 (z1a rfl (by rw[zA4];omega)) rfl (bkN hZW) ?_)|(apply z0t;first|refine z07 (z99 (by omega)) rfl rfl ?_| refine z07 z4r rfl rfl ?_| refine z07 zc7 rfl rfl ?_)|(apply z0x;refine zrs (md:=0+e0) (ms:=Z) rfl hZW rfl rfl hidx rfl rfl hys ?_)|refine z04 ?_|refine fk (fun _=>?_) fun _=>?_
   all_goals try omega
   all_goals (rw[z1v];exact z00 ih' rfl rfl)
  ·rw[zAy ht]at hbt ih'
   have hid:W.set q x=W:=by
    obtain⟨g1,g2⟩:=zA1.1 hWq
    rw[←g2];exact List.set_getElem_self g1
   rw[hid]at ih'
   repeat' first|(apply z0t;first|refine z07 (z99 (by omega)) rfl rfl ?_| refine z07 z4r rfl rfl ?_)|refine z04 ?_|refine fk (fun _=>?_) fun _=>?_
   all_goals exact zD8
 ·obtain rfl:q=fo.length:=by omega
  rw[zAs,List.append_nil,←hll,List.take_length]
  repeat' first|refine z04 ?_|refine fk (fun _=>?_) fun _=>?_
  all_goals try omega
  all_goals exact ze8 func167 _ (z2o rfl) ⟨rfl,by rw[Nat.zero_add];rfl⟩
theorem zn1{P:Program}{f:FuncId}{R:z2y}{k:List Item}{all:Array Oper}{l:List Oper}{n:Nat}{tm:List (Nat × PV)}{hp:Hp}{up:Hf}{d:Nat}{ty:TypeId}{pos:String}{aft:Array Edge}{gd:Option (Nat × Bool)}{p:PV}{g:FuncId}{args:List Operand}{ps:List PV}{ats:Array TypeId}{md m1 m2:Nat}{b1 b2 b':Blk}
 (hsp:z0u P g ps [((md+1,m1),b1),((md+1,m2),b2)] [((md+1,m2),b')] p) (hev:St.evs ⟨n,tm,hp,up⟩ args=some ps) (h1:up md m1=some b1) (h2:up md m2=some b2) (hd:d<n)
 (h:Ops P f R all l k ⟨n,(d,p)::tm,hp,upd up (md,m2) b'⟩):Op1 P f R all ⟨some d,.call ⟨.value (.func g),args.toArray,ats⟩,ty,pos,aft,gd⟩ l k ⟨n,tm,hp,up⟩ :=
 zju hsp hev (z1q (m:=(md+1,m1)) h1 (z1q (m:=(md+1,m2)) h2 z5l)) hd rfl h
abbrev ptc(p:Pt):List D:=[y2l (p.f:Nat),y2l (p.l:Nat),zdm p.nu]
theorem zkk{X Y Z:Nat}(hXZ:X≠Z)(fo:List Nat)(a b:Pt)(ha1:a.f<2 ^ 64)(ha2:a.l<2 ^ 64)(hb1:b.f<2 ^ 64)(hb2:b.l<2 ^ 64)(hfo:fo.length≤64)(hfx:∀x∈fo,x<2 ^ 64)(lv:List (List Rg))(e0:Nat) :
 z0u prog 131 [.ptr (e0,X) 0,.d (.agg (ptc a)),.d (.agg (ptc b))] [((e0,X),bbx Y Z),((e0,Z),.row 108 1 (fo.map n64))] [((e0,Z),.row 108 1 ((lnk a.l b.f 0 fo).map n64))] (.d (.agg (ptc (z8q a b ⟨lv,fo⟩).2))):=by
 refine z0v fun H hH=>?_
 have hX:H e0 X=some (bbx Y Z):=hH ((e0,X),bbx Y Z) (by simp)
 have hZ:H e0 Z=some (.row 108 1 (fo.map n64)):=hH ((e0,Z),.row 108 1 (fo.map n64)) (by simp)
 have hl:=zv0 (X:=X) (Y:=Y) (Z:=Z) hXZ fo a.l b.f ha2 hb1 hfo hfx (e0+1)
 have ho1:=y2k ha1 hb1
 have ho2:=y2k hb2 ha2
 obtain⟨af,al,an⟩:=a
 obtain⟨bf,bl,bn⟩:=b
 refine z05 func131 (by kernel_rfl) rfl (by simp) ?_
 dsimp only[f131,z8q]
 simp only at hl ho1 ho2
 cases an <;> cases bn <;> skip
 all_goals (try simp only[if_true,if_false,Bool.false_eq_true])
 all_goals (try rw[←ho1]) 
 all_goals (try rw[←ho2])
 ·repeat' (first|(apply z06;refine zn1 hl rfl hX hZ (by decide) ?_)|refine z04 ?_|fail)
  all_goals exact z03 func131 _ (z2x rfl rfl rfl rfl rfl rfl) ⟨by first|rfl|(dsimp only[ptc];rw[←ho2];rfl)|(dsimp only[ptc];rw[←ho1];rfl)|(dsimp only[ptc];rw[←ho1,←ho2];rfl),rfl⟩
 ·all_goals exact zD28
 ·all_goals exact zD28
 ·all_goals exact zD28
attribute [local irreducible] z5w
abbrev lv1(r:List Rg):List D:=[rgs r]
abbrev lvr(lv:List (List Rg)):Blk:=.row 48 1 (lv.map lv1)
abbrev fwr(fo:List Nat):Blk:=.row 108 1 (fo.map n64)
abbrev bks(t:Tb):List (Nm × Blk):=[((0,600),bbx 601 602),((0,601),lvr t.lv),((0,602),fwr t.fo)]
abbrev hks(t:Tb):List (Nm × Blk):=[((0,600),.gone),((0,601),.gone),((0,602),.gone),((0,603),lvr t.lv),((0,604),fwr t.fo),((0,600),bbx 603 604)]
abbrev zih(g:FuncId)(args:List PV)(t:Tb)(r:Tb × Pt):Prop:=z5w prog g (.ptr (0,600) 0::args) (bks t) (hks r.1) (.d (.agg (ptc r.2))) 603 604
abbrev KB(e:Rx):Prop:=∀t:Tb,Sm t→(t.lv.length:Int)+pn e≤64→zih 92 [.d (Drx e)] t (bd e t)
theorem z4g(op mn mx:Int)(rs:List Rg)(ks:List Rx):Drx (.mk op mn mx rs ks)=.agg (rx5 op mn mx rs ks):=congrArg D.agg (z4h op mn mx rs ks)
theorem zfr(e:Rx)(hv:vns e=true)(hk:KB e):∀(n:Nat) (t:Tb),Sm t→n≤16→(t.lv.length:Int)+n*pn e≤64→zih 168 [.d (Drx e),I .i64 (n:Nat)] t (opt (bd e) n t)
 | 0,t,hs,hn,hl=>by
  obtain⟨op,mn,mx,rs,ks⟩:=e
  rw[z4g]
  refine z90 fun H hH hG1 hG2 hQ1 hQ2=>?_
  have hH0:=hH ((0,600),bbx 601 602) (by simp)
  have hH1:=hH ((0,601),lvr t.lv) (by simp)
  have hH2:=hH ((0,602),fwr t.fo) (by simp)
  refine z4o func168 (by kernel_rfl) rfl (by simp) ?_
  dsimp only[f168]
  refine z4d 600 0 600 hH0 rfl rfl ?_
  refine z1k 601 0 601 (z08 hH1 (by simp)) rfl rfl ?_
  refine z1k 602 0 602 (z08 (z08 hH2 (by simp)) (by simp)) rfl rfl ?_
  refine z3l 100601 rfl ?_
  refine z3l 100602 rfl ?_
  repeat' first|refine z04 ?_|fail
  all_goals try omega
  all_goals refine z2r 601 603 rfl (z08 (z08 (z08 hG1 (by simp)) (by simp)) (by simp)) (Or.inl rfl) rfl (Quiet.upd (Quiet.upd (Quiet.upd hQ1 rfl) rfl) rfl) ?_
  all_goals refine z2r 602 604 rfl (z08 (z08 (z08 (z08 hG2 (by simp)) (by simp)) (by simp)) (by simp)) (Or.inr rfl) rfl (Quiet.upd (Quiet.upd (Quiet.upd (Quiet.upd hQ2 rfl) rfl) rfl) rfl) ?_
  all_goals refine z3a (raw:=bbx 603 604) 600 0 600 ?_
  refine z03 func168 _ (z2x rfl rfl rfl rfl rfl rfl) ⟨rfl,rfl⟩
 | n+1,t,hs,hn,hl=>by
  have hko:=y11 hv
  have h0:=zf7.1 e hv
  have hnP:0≤(n:Int)*pn e:=Int.mul_nonneg (by omega) h0
  have ee:((n+1:Nat):Int)*pn e=n*pn e+pn e:=by rw[show((n+1:Nat):Int)=(n:Int)+1 by omega,Int.add_mul,Int.one_mul]
  rw[ee]at hl
  have hbl:=hko.bl t hs.len
  have hfw:=hko.few t hs.len
  obtain⟨s1,pf,pl⟩:=hbl.sm hs (by omega)
  have hos:=zcq hko h0 n (bd e t).1 s1.len
  obtain⟨s2,qf,ql⟩:=hos.1.sm s1 (by omega)
  have hk1:=hk t hs (by omega)
  have ho:=zfr e hv hk n (bd e t).1 s1 (by omega) (by omega)
  have hcc:=zkk (X:=600) (Y:=603) (Z:=604) (by decide) (opt (bd e) n (bd e t).1).1.fo (bd e t).2 (opt (bd e) n (bd e t).1).2 pf pl qf ql (by rw[s2.len];omega) s2.sm (opt (bd e) n (bd e t).1).1.lv 0
  have hn1:((n+1:Nat):Int)-1=(n:Nat):=by omega
  have hnu:=y10 (b:=bd e) n (bd e t).1
  rw[opt]
  generalize hE:opt (bd e) n (bd e t).1=r2 at *
  generalize hB:bd e t=r1 at *
  obtain⟨t2,p2⟩:=r2
  obtain⟨t1,p1⟩:=r1
  obtain⟨op,mn,mx,rs,ks⟩:=e
  rw[z4g]at hk1 ho⊢
  dsimp only[zih,hks]at hk1 ho
  rw[←hn1]at ho
  have e1:(t.lv.map lv1).length=t.lv.length:=zA4 _
  have e2:(t1.lv.map lv1).length=t1.lv.length:=zA4 _
  refine z90 fun H hH hG1 hG2 hQ1 hQ2=>?_
  have hH0:=hH ((0,600),bbx 601 602) (by simp)
  have hH1:=hH ((0,601),lvr t.lv) (by simp)
  have hH2:=hH ((0,602),fwr t.fo) (by simp)
  refine z4o func168 (by kernel_rfl) rfl (by simp) ?_
  dsimp only[f168]
  refine z4d 600 0 600 hH0 rfl rfl ?_
  refine z1k 601 0 601 (z08 hH1 (by simp)) rfl rfl ?_
  refine z1k 602 0 602 (z08 (z08 hH2 (by simp)) (by simp)) rfl rfl ?_
  refine z3l 100601 rfl ?_
  refine z3l 100602 rfl ?_
  simp only[same,zA3]at *
  by_cases hsm:t1.lv.length=t.lv.length
  ·rw[zAz hsm]
   repeat' first|(apply z0r;refine z8w hk1 rfl rfl rfl (by decide) rfl rfl rfl (by decide) rfl rfl rfl rfl ?_)|(apply z14;refine z07 (z4e rfl) rfl rfl ?_)|refine z04 ?_|refine fk (fun _=>?_) fun _=>?_
   all_goals try omega
   all_goals refine z2r 601 603 rfl (z08 (z08 (z08 hG1 (by simp)) (by simp)) (by simp)) (Or.inl rfl) rfl (Quiet.upd (Quiet.upd (Quiet.upd hQ1 rfl) rfl) rfl) ?_
   all_goals refine z2r 602 604 rfl (z08 (z08 (z08 (z08 hG2 (by simp)) (by simp)) (by simp)) (by simp)) (Or.inr rfl) rfl (Quiet.upd (Quiet.upd (Quiet.upd (Quiet.upd hQ2 rfl) rfl) rfl) rfl) ?_
   all_goals refine z3a (raw:=bbx 603 604) 600 0 600 ?_
   all_goals refine z03 func168 _ (z2x rfl rfl rfl rfl rfl rfl) ⟨rfl,rfl⟩
  ·rw[zAy hsm]
   repeat' first|(apply z0r;refine z8w hk1 rfl rfl rfl (by decide) rfl rfl rfl (by decide) rfl rfl rfl rfl ?_)|(apply zle;refine y3z ho (by first|exact rfl|exact⟨_,rfl,rfl,rfl⟩) rfl rfl rfl (by decide) rfl rfl rfl (by decide) ?_)|(apply z14;refine z07 (z4e rfl) rfl rfl ?_)|(apply z0l;refine zky hcc (by first|exact rfl|exact⟨_,rfl,rfl,rfl⟩) rfl rfl rfl (by decide) ?_)|refine z04 ?_|refine fk (fun _=>?_) fun _=>?_
   all_goals try omega
   all_goals refine z2r 603 603 rfl (z08 (z08 (z08 hG1 (by simp)) (by simp)) (by simp)) (Or.inl rfl) rfl (Quiet.upd (Quiet.upd (Quiet.upd hQ1 rfl) rfl) rfl) ?_
   all_goals refine z2r 604 604 rfl (z08 (z08 (z08 (z08 hG2 (by simp)) (by simp)) (by simp)) (by simp)) (Or.inr rfl) rfl (Quiet.upd (Quiet.upd (Quiet.upd (Quiet.upd hQ2 rfl) rfl) rfl) rfl) ?_
   all_goals refine z3a (raw:=bbx 603 604) 600 0 600 ?_
   refine z03 func168 _ (z2x rfl rfl rfl rfl rfl rfl) ⟨rfl,rfl⟩
abbrev U3(H:Hf):Hf:=upd (upd (upd H (0,600) .gone) (0,601) .gone) (0,602) .gone
abbrev ptb(p:Pt):Blk:=.box [.d (y2l (p.f:Nat)),.d (y2l (p.l:Nat)),.d (zdm p.nu)]
abbrev ydd(op mn mx:Int)(rs:List Rg)(c:List D):List D:=[z2i op,z2i mn,z2i mx,rgs rs,.slice [c]]
theorem y43(op mn mx:Int)(rs:List Rg)(ok mk xk:Int)(rk:List Rg)(kk:List Rx):rx5 op mn mx rs [.mk ok mk xk rk kk]=ydd op mn mx rs (rx5 ok mk xk rk kk):=by
 show [z2i op,z2i mn,z2i mx,rgs rs,.slice [rxc (.mk ok mk xk rk kk)]]=_
 rw[z4h]
theorem yad(op mn mx:Int)(rs:List Rg)(k:Rx)(hvk:vns k=true)(hk:KB k)(h0:0≤mn)(h16:mn≤16)(hm:mx=-1∨(mn≤mx∧mx≤16))(t:Tb)(hs:Sm t)(hl:(t.lv.length:Int)+rep mn mx (pn k)≤64) :
 zih 132 [.d (Drx (.mk op mn mx rs [k]))] t (rp (bd k) mn mx t):=by
 have hko:=y11 hvk
 have hP:=zf7.1 k hvk
 have hrep:mn*pn k≤rep mn mx (pn k):=by
  rw[rep]
  split
  ·rw[Int.mul_comm];exact Int.mul_le_mul_of_nonneg_left (by omega) hP
  ·rw[Int.mul_comm];exact Int.mul_le_mul_of_nonneg_left (by omega) hP
 obtain⟨r,hr⟩:∃r,rpl (bd k) (decide (mx<0)) mn.toNat t ptE=r:=⟨_,rfl⟩
 obtain⟨F,hF⟩:∃F,rp (bd k) mn mx t=F:=⟨_,rfl⟩
 have hF':=hF
 rw[rp]at hF'
 simp only[hr]at hF'
 rw[hF]
 obtain⟨ok,mk,xk,rk,kk⟩:=k
 rw[z4g,y43]
 refine z90 fun H hH hG1 hG2 hQ1 hQ2=>?_
 have hH0:=hH ((0,600),bbx 601 602) (by simp)
 have hH1:=hH ((0,601),lvr t.lv) (by simp)
 have hH2:=hH ((0,602),fwr t.fo) (by simp)
 refine z4o func132 (by kernel_rfl) rfl (by simp) ?_
 dsimp only[f132]
 refine z4d 600 0 600 hH0 rfl rfl ?_
 refine z1k 601 0 601 (z08 hH1 (by simp)) rfl rfl ?_
 refine z1k 602 0 602 (z08 (z08 hH2 (by simp)) (by simp)) rfl rfl ?_
 refine z3l 100601 rfl ?_
 refine z3l 100602 rfl ?_
 repeat' first|refine z04 ?_|fail
 refine z0f ?_
 refine z00 (z0s (fun q:Nat × Tb × Pt=>⟨98,[(0,.ptr (0,600) 0),(3,.ptr (0,3) 0),(4,.ptr (0,4) 0),(5,.ptr (0,5) 0),(11,I .i64 mn),(12,I .i64 (q.1:Nat)),(100600,.al (0,600) (1,600))],[(3,.box ((ydd op mn mx rs (rx5 ok mk xk rk kk)).map .d)),(4,ptb ptN),(5,ptb q.2.2),(600,bbx 601 602),(601,lvr q.2.1.lv),(602,fwr q.2.1.fo)],U3 H⟩)
  (fun q=>q.1≤mn.toNat∧rpl (bd (.mk ok mk xk rk kk)) (decide (mx<0)) (mn.toNat-q.1) q.2.1 q.2.2=r∧(∃Z,Bl O1 Z t q.2.1 q.2.2)∧(q.2.1.lv.length:Int)+((mn.toNat-q.1:Nat):Int)*pn (.mk ok mk xk rk kk)≤t.lv.length+mn*pn (.mk ok mk xk rk kk)) (fun q=>mn.toNat-q.1) ?_ (0,t,ptE) ⟨zAf _,hr,⟨_,Bl.eps (Ex.refl hs.len)⟩,by simp only[Nat.sub_zero];rw[show((mn.toNat:Nat):Int)=mn by omega];exact Int.le_refl _⟩) rfl rfl
 rintro⟨i,t',p⟩ ⟨i1,i2,⟨Z,i3⟩,i4⟩ ih
 simp only at i1 i2 i3 i4 ih⊢
 have hnn:0≤((mn.toNat-i:Nat):Int)*pn (.mk ok mk xk rk kk):=Int.mul_nonneg (by omega) hP
 obtain⟨s1,pf,pl⟩:=i3.sm hs (by omega)
 by_cases hlt:i<mn.toNat
 ·obtain⟨n',hn⟩:∃n',mn.toNat-i=n'+1:=⟨mn.toNat-i-1,by omega⟩
  have hn2:mn.toNat-(i+1)=n':=by omega
  have hbl:=hko.bl t' s1.len
  have hfw:=hko.few t' s1.len
  have hnn2:0≤(n':Int)*pn (.mk ok mk xk rk kk):=Int.mul_nonneg (by omega) hP
  rw[hn,show((n'+1:Nat):Int)=(n':Int)+1 by omega,Int.add_mul,Int.one_mul]at i4
  obtain⟨s2,qf,ql⟩:=hbl.sm s1 (by omega)
  have hk1:=hk t' s1 (by omega)
  rw[hn,rpl]at i2
  generalize hB:bd (.mk ok mk xk rk kk) t'=r1 at *
  obtain⟨t1,q⟩:=r1
  have hfw2:(t1.lv.length:Int)≤t'.lv.length+pn (.mk ok mk xk rk kk):=hfw
  rw[z4g]at hk1
  dsimp only[zih,hks]at hk1
  simp only[same,zA3]at i2
  have e1:(t'.lv.map lv1).length=t'.lv.length:=zA4 _
  have e2:(t1.lv.map lv1).length=t1.lv.length:=zA4 _
  by_cases hsm:t1.lv.length=t'.lv.length
  ·rw[zAz hsm]at i2
   have hFF:F=(t1,ptE):=by
    rw[←hF',←i2];rfl
   rw[hFF]
   repeat' first|(apply z0r;refine z8w hk1 rfl rfl rfl (by decide) rfl rfl rfl (by decide) rfl rfl rfl rfl ?_)|(apply z01;refine z07 (z1u (ys:=[rx5 ok mk xk rk kk]) rfl (by omega) rfl rfl) rfl rfl ?_)|(apply z02;refine z0c (z1u (ys:=[rx5 ok mk xk rk kk]) rfl (by omega) rfl rfl) rfl rfl ?_)|(apply z14;refine z07 (z4e rfl) rfl rfl ?_)|refine z04 ?_|refine fk (fun _=>?_) fun _=>?_
   all_goals exact zD14
  ·rw[zAy hsm]at i2
   by_cases hpl:mx<0∧n'=0
   ·rw[zAz (by simp[hpl.1,hpl.2])]at i2
    have hbp:=hbl.plus
    obtain⟨s3,_,_⟩:=hbp.sm s1 (by show t1.lv.length≤64;omega)
    have hlk:=zv0 (X:=600) (Y:=601) (Z:=602) (by decide) t1.fo q.l q.f ql qf (by rw[s2.len];omega) s2.sm 0
    have hcc:=zkk (X:=600) (Y:=601) (Z:=602) (by decide) (lnk q.l q.f 0 t1.fo) p q pf pl qf ql (by have:=s3.len;show(link t1 q.l q.f).fo.length≤64;rw[this];show t1.lv.length≤64;omega) s3.sm t1.lv 0
    have ih':=ih (i+1,(z8q p q (link t1 q.l q.f)).1,(z8q p q (link t1 q.l q.f)).2) ⟨by simp only;omega,by simp only;rw[hn2];exact i2,⟨_,i3.cat hbp⟩,by simp only;rw[hn2];show(t1.lv.length:Int)+_≤_;omega⟩ (by simp only;omega)
    repeat' first|(apply z0r;refine z8w hk1 rfl rfl rfl (by decide) rfl rfl rfl (by decide) rfl rfl rfl rfl ?_)|(apply z01;refine z07 (z1u (ys:=[rx5 ok mk xk rk kk]) rfl (by omega) rfl rfl) rfl rfl ?_)|(apply z02;refine z0c (z1u (ys:=[rx5 ok mk xk rk kk]) rfl (by omega) rfl rfl) rfl rfl ?_)|(apply z14;refine z07 (z4e rfl) rfl rfl ?_)|(apply z06;first|refine z2q hlk rfl rfl rfl (by decide) ?_|refine z2q hcc rfl rfl rfl (by decide) ?_)|refine z04 ?_|refine fk (fun _=>?_) fun _=>?_
    all_goals exact zD8
   ·rw[zAy (by simpa using hpl)]at i2
    have hcc:=zkk (X:=600) (Y:=601) (Z:=602) (by decide) t1.fo p q pf pl qf ql (by rw[s2.len];omega) s2.sm t1.lv 0
    have ih':=ih (i+1,(z8q p q t1).1,(z8q p q t1).2) ⟨by simp only;omega,by simp only;rw[hn2];exact i2,⟨_,i3.cat hbl⟩,by simp only;rw[hn2];show(t1.lv.length:Int)+_≤_;omega⟩ (by simp only;omega)
    repeat' first|(apply z0r;refine z8w hk1 rfl rfl rfl (by decide) rfl rfl rfl (by decide) rfl rfl rfl rfl ?_)|(apply z01;refine z07 (z1u (ys:=[rx5 ok mk xk rk kk]) rfl (by omega) rfl rfl) rfl rfl ?_)|(apply z02;refine z0c (z1u (ys:=[rx5 ok mk xk rk kk]) rfl (by omega) rfl rfl) rfl rfl ?_)|(apply z14;refine z07 (z4e rfl) rfl rfl ?_)|(apply z06;refine z2q hcc rfl rfl rfl (by decide) ?_)|refine z04 ?_|refine fk (fun _=>?_) fun _=>?_
    all_goals exact zD8
 ·obtain rfl:i=mn.toNat:=by omega
  rw[Nat.sub_self,rpl]at i2
  rw[←i2]at hF'
  simp only[Bool.false_eq_true,if_false]at hF'
  rw[Nat.sub_self]at i4
  have i4':(t'.lv.length:Int)≤t.lv.length+mn*pn (.mk ok mk xk rk kk):=by simpa using i4
  by_cases hA:mx<0∧mn=0
  ·rw[zAz hA]at hF'
   have hre:rep mn mx (pn (.mk ok mk xk rk kk))=pn (.mk ok mk xk rk kk):=by
    rw[rep,zAz (by omega),hA.2,show max (0:Int) 1=1 by decide,Int.mul_one]
   rw[hre]at hl
   rw[hA.2,Int.zero_mul]at i4'
   have hbl:=hko.bl t' s1.len
   have hfw:=hko.few t' s1.len
   obtain⟨s2,qf,ql⟩:=hbl.sm s1 (by omega)
   have hk1:=hk t' s1 (by omega)
   generalize hB:bd (.mk ok mk xk rk kk) t'=r1 at *
   obtain⟨t1,q⟩:=r1
   have hfw2:(t1.lv.length:Int)≤t'.lv.length+pn (.mk ok mk xk rk kk):=hfw
   rw[z4g]at hk1
   dsimp only[zih,hks]at hk1
   have hlk:=zv0 (X:=600) (Y:=601) (Z:=602) (by decide) t1.fo q.l q.f ql qf (by rw[s2.len];omega) s2.sm 0
   rw[←hF']
   repeat' first|(apply z0r;refine z8w hk1 rfl rfl rfl (by decide) rfl rfl rfl (by decide) rfl rfl rfl rfl ?_)|(apply z01;refine z07 (z1u (ys:=[rx5 ok mk xk rk kk]) rfl (by omega) rfl rfl) rfl rfl ?_)|(apply z02;refine z0c (z1u (ys:=[rx5 ok mk xk rk kk]) rfl (by omega) rfl rfl) rfl rfl ?_)|(apply z06;refine z2q hlk rfl rfl rfl (by decide) ?_)|refine z04 ?_|refine fk (fun _=>?_) fun _=>?_
   all_goals exact zD14
  ·rw[zAy hA]at hF'
   by_cases hC:mn<mx
   ·rw[zAz hC]at hF'
    have hre:rep mn mx (pn (.mk ok mk xk rk kk))=mn*pn (.mk ok mk xk rk kk)+((mx-mn).toNat:Int)*pn (.mk ok mk xk rk kk):=by
     rw[rep,zAy (by omega),←Int.add_mul,Int.mul_comm];congr 1;omega
    have ho:=zfr (.mk ok mk xk rk kk) hvk hk (mx-mn).toNat t' s1 (by omega) (by omega)
    have hos:=zcq hko hP (mx-mn).toNat t' s1.len
    obtain⟨s2,qf,ql⟩:=hos.1.sm s1 (by omega)
    generalize hB:opt (bd (.mk ok mk xk rk kk)) (mx-mn).toNat t'=r1 at *
    obtain⟨t1,q⟩:=r1
    have hfw2:(t1.lv.length:Int)≤t'.lv.length+((mx-mn).toNat:Int)*pn (.mk ok mk xk rk kk):=hos.2
    have hcc:=zkk (X:=600) (Y:=603) (Z:=604) (by decide) t1.fo p q pf pl qf ql (by rw[s2.len];omega) s2.sm t1.lv 0
    rw[z4g,show(((mx-mn).toNat:Nat):Int)=mx-mn by omega]at ho
    dsimp only[zih,hks]at ho
    rw[←hF']
    repeat' first|(apply zle;refine y3z ho (by first|exact rfl|exact⟨_,rfl,rfl,rfl⟩) rfl rfl rfl (by decide) rfl rfl rfl (by decide) ?_)|(apply z01;refine z07 (z1u (ys:=[rx5 ok mk xk rk kk]) rfl (by omega) rfl rfl) rfl rfl ?_)|(apply z02;refine z0c (z1u (ys:=[rx5 ok mk xk rk kk]) rfl (by omega) rfl rfl) rfl rfl ?_)|(apply z0l;refine zky hcc (by first|exact rfl|exact⟨_,rfl,rfl,rfl⟩) rfl rfl rfl (by decide) ?_)|refine z04 ?_|refine fk (fun _=>?_) fun _=>?_
    all_goals try omega
    all_goals refine z2r 603 603 rfl (z08 (z08 (z08 hG1 (by simp)) (by simp)) (by simp)) (Or.inl rfl) rfl (Quiet.upd (Quiet.upd (Quiet.upd hQ1 rfl) rfl) rfl) ?_
    all_goals refine z2r 604 604 rfl (z08 (z08 (z08 (z08 hG2 (by simp)) (by simp)) (by simp)) (by simp)) (Or.inr rfl) rfl (Quiet.upd (Quiet.upd (Quiet.upd (Quiet.upd hQ2 rfl) rfl) rfl) rfl) ?_
    all_goals refine z3a (raw:=bbx 603 604) 600 0 600 ?_
    all_goals refine z03 func132 _ (z2x rfl rfl rfl rfl rfl rfl) ⟨rfl,rfl⟩
   ·rw[zAy hC]at hF'
    rw[←hF']
    repeat' first|refine z04 ?_|refine fk (fun _=>?_) fun _=>?_
    all_goals exact zD14
theorem zhb:∀ {ks:List Rx},zev ks=true→∀i,0≤pnL (ks.drop i)
 | ks,h,0=>zf7.2 ks h
 | [],h,i+1=>Int.le_refl _
 | k::ks,h,i+1=>by
  rw[zev,zA7]at h
  exact zhb h.2 i
theorem y0s(mn mx:Int)(rs:List Rg)(ks:List Rx)(t:Tb)(hs:Sm t)(hl:(t.lv.length:Int)+1≤64):zih 92 [.d (Drx (.mk 1 mn mx rs ks))] t (bd (.mk 1 mn mx rs ks) t):=by
 rw[bd,zAz rfl,z4g]
 have hsh:=y5e (i:=t.lv.length) (by omega)
 have e1:(t.lv.map lv1).length=t.lv.length:=zA4 _
 have e2:=hs.len
 refine z90 fun H hH hG1 hG2 hQ1 hQ2=>?_
 have hH0:=hH ((0,600),bbx 601 602) (by simp)
 have hH1:=hH ((0,601),lvr t.lv) (by simp)
 have hH2:=hH ((0,602),fwr t.fo) (by simp)
 refine z4o func92 (by kernel_rfl) rfl (by simp) ?_
 dsimp only[f92]
 refine z4d 600 0 600 hH0 rfl rfl ?_
 refine z1k 601 0 601 (z08 hH1 (by simp)) rfl rfl ?_
 refine z1k 602 0 602 (z08 (z08 hH2 (by simp)) (by simp)) rfl rfl ?_
 refine z3l 100601 rfl ?_
 refine z3l 100602 rfl ?_
 repeat' (first | (apply z0t; (refine z07 (zmn (by omega)) rfl rfl ?_)) | (apply z14; (first | refine z2w (g := n64) 0 rfl ?_| refine z07 (z4e rfl) rfl rfl ?_)) | (apply z4i; (refine z4y (g := lv1) (by first | exact rfl | exact ⟨_, rfl, rfl, rfl⟩) rfl rfl rs rfl rfl rfl rfl rfl rfl rfl (by decide) (by omega) ?_)) | (apply z10; ((refine zc1 mix (by kernel_rfl) ?_) /- zb8 -/)) | refine z04 ?_ | fail)
 all_goals try omega
 all_goals refine z2r 31 603 rfl (z08 (z08 (z08 hG1 (by simp)) (by simp)) (by simp)) (Or.inl rfl) rfl (Quiet.upd (Quiet.upd (Quiet.upd hQ1 rfl) rfl) rfl) ?_
 all_goals refine z2r 40 604 rfl (z08 (z08 (z08 (z08 hG2 (by simp)) (by simp)) (by simp)) (by simp)) (Or.inr rfl) rfl (Quiet.upd (Quiet.upd (Quiet.upd (Quiet.upd hQ2 rfl) rfl) rfl) rfl) ?_
 all_goals refine z3a (raw:=bbx 603 604) 600 0 600 ?_
 refine z03 func92 _ (z2x rfl rfl rfl rfl rfl rfl) ⟨by dsimp only[ptc];rw[←hsh,←e1];rfl,rfl⟩
theorem bd2(mn mx:Int)(rs:List Rg)(ks:List Rx)(t:Tb):bd (.mk 2 mn mx rs ks) t=bdC ks t ptE:=by rw[bd,zAy (by decide),zAz rfl]
theorem bd3(mn mx:Int)(rs:List Rg)(ks:List Rx)(t:Tb):bd (.mk 3 mn mx rs ks) t=bdU ks t ptN:=by rw[bd,zAy (by decide),zAy (by decide),zAz rfl]
theorem zxn(mn mx:Int)(rs:List Rg)(ks:List Rx)(hlen:ks.length≤9223372036854775807)(hv:zev ks=true)(hk:∀k∈ks,KB k)(t:Tb)(hs:Sm t)(hl:(t.lv.length:Int)+pnL ks≤64):zih 92 [.d (Drx (.mk 2 mn mx rs ks))] t (bd (.mk 2 mn mx rs ks) t):=by
 rw[bd2,z4g]
 obtain⟨F,hF⟩:∃F,bdC ks t ptE=F:=⟨_,rfl⟩
 rw[hF]
 refine z90 fun H hH hG1 hG2 hQ1 hQ2=>?_
 have hH0:=hH ((0,600),bbx 601 602) (by simp)
 have hH1:=hH ((0,601),lvr t.lv) (by simp)
 have hH2:=hH ((0,602),fwr t.fo) (by simp)
 refine z4o func92 (by kernel_rfl) rfl (by simp) ?_
 dsimp only[f92]
 refine z4d 600 0 600 hH0 rfl rfl ?_
 refine z1k 601 0 601 (z08 hH1 (by simp)) rfl rfl ?_
 refine z1k 602 0 602 (z08 (z08 hH2 (by simp)) (by simp)) rfl rfl ?_
 refine z3l 100601 rfl ?_
 refine z3l 100602 rfl ?_
 repeat' first|refine z04 ?_|fail
 all_goals try omega
 refine z0f ?_
 refine z00 (z0s (fun q:Nat × Tb × Pt=>⟨98,[(0,.ptr (0,600) 0),(3,.ptr (0,3) 0),(4,.ptr (0,4) 0),(6,.ptr (0,6) 0),(50,.d (.slice (ks.map rxc))),(51,I .i64 ks.length),(52,I .i64 (q.1:Nat)),(100600,.al (0,600) (1,600))],[(4,ptb ptN),(6,ptb q.2.2),(600,bbx 601 602),(601,lvr q.2.1.lv),(602,fwr q.2.1.fo)],U3 H⟩)
  (fun q=>q.1≤ks.length∧bdC (ks.drop q.1) q.2.1 q.2.2=F∧(∃Z,Bl O1 Z t q.2.1 q.2.2)∧(q.2.1.lv.length:Int)+pnL (ks.drop q.1)≤64) (fun q=>ks.length-q.1) ?_ (0,t,ptE) ⟨zAf _,hF,⟨_,Bl.eps (Ex.refl hs.len)⟩,hl⟩) rfl rfl
 rintro⟨i,t',p⟩ ⟨i1,i2,⟨Z,i3⟩,i4⟩ ih
 simp only at i1 i2 i3 i4 ih⊢
 by_cases hlt:i<ks.length
 ·obtain⟨k,hki⟩:∃k,ks[i]? =some k:=⟨_,zA0 hlt⟩
  have hmem:=zA2 hki
  have hvk:=z4z hv k hmem
  have hP:=zf7.1 k hvk
  have hPr:0≤pnL (ks.drop (i+1)):=zhb hv (i+1)
  rw[drop_cons hki,pnL]at i4
  rw[drop_cons hki,bdC]at i2
  obtain⟨s1,pf,pl⟩:=i3.sm hs (by omega)
  have hko:=y11 hvk
  have hbl:=hko.bl t' s1.len
  have hfw:=hko.few t' s1.len
  obtain⟨s2,qf,ql⟩:=hbl.sm s1 (by omega)
  have hk1:=hk k hmem t' s1 (by omega)
  generalize hB:bd k t'=r1 at *
  obtain⟨t1,q⟩:=r1
  have hfw2:(t1.lv.length:Int)≤t'.lv.length+pn k:=hfw
  obtain⟨ok,mk,xk,rk,kk⟩:=k
  rw[z4g]at hk1
  dsimp only[zih,hks]at hk1
  have hcc:=zkk (X:=600) (Y:=603) (Z:=604) (by decide) t1.fo p q pf pl qf ql (by rw[s2.len];omega) s2.sm t1.lv 0
  have ih':=ih (i+1,(z8q p q t1).1,(z8q p q t1).2) ⟨by simp only;omega,i2,⟨_,i3.cat hbl⟩,by show(t1.lv.length:Int)+_≤_;simp only;omega⟩ (by simp only;omega)
  repeat' first|(apply zle;refine y3z hk1 (by first|exact rfl|exact⟨_,rfl,rfl,rfl⟩) rfl rfl rfl (by decide) rfl rfl rfl (by decide) ?_)|(apply z01;refine z07 (z11 (ys:=ks.map rxc) rfl (zbw hki)) rfl rfl ?_)|(apply z0l;refine zky hcc (by first|exact rfl|exact⟨_,rfl,rfl,rfl⟩) rfl rfl rfl (by decide) ?_)|refine z04 ?_|refine fk (fun _=>?_) fun _=>?_
  all_goals try omega
  all_goals refine z1d 603 601 ?_
  all_goals refine z1d 604 602 ?_
  all_goals exact z00 ih' rfl rfl
 ·obtain rfl:i=ks.length:=by omega
  rw[zAs,bdC]at i2
  rw[←i2]
  repeat' first|refine z04 ?_|refine fk (fun _=>?_) fun _=>?_
  all_goals exact zD15
theorem zxe(mn mx:Int)(rs:List Rg)(ks:List Rx)(hlen:ks.length≤9223372036854775807)(hv:zev ks=true)(hk:∀k∈ks,KB k)(t:Tb)(hs:Sm t)(hl:(t.lv.length:Int)+pnL ks≤64):zih 92 [.d (Drx (.mk 3 mn mx rs ks))] t (bd (.mk 3 mn mx rs ks) t):=by
 rw[bd3,z4g]
 obtain⟨F,hF⟩:∃F,bdU ks t ptN=F:=⟨_,rfl⟩
 rw[hF]
 refine z90 fun H hH hG1 hG2 hQ1 hQ2=>?_
 have hH0:=hH ((0,600),bbx 601 602) (by simp)
 have hH1:=hH ((0,601),lvr t.lv) (by simp)
 have hH2:=hH ((0,602),fwr t.fo) (by simp)
 refine z4o func92 (by kernel_rfl) rfl (by simp) ?_
 dsimp only[f92]
 refine z4d 600 0 600 hH0 rfl rfl ?_
 refine z1k 601 0 601 (z08 hH1 (by simp)) rfl rfl ?_
 refine z1k 602 0 602 (z08 (z08 hH2 (by simp)) (by simp)) rfl rfl ?_
 refine z3l 100601 rfl ?_
 refine z3l 100602 rfl ?_
 repeat' first|refine z04 ?_|fail
 all_goals try omega
 refine z0f ?_
 refine z00 (z0s (fun q:Nat × Tb × Pt=>⟨98,[(0,.ptr (0,600) 0),(3,.ptr (0,3) 0),(4,.ptr (0,4) 0),(9,.ptr (0,9) 0),(67,.d (.slice (ks.map rxc))),(68,I .i64 ks.length),(69,I .i64 (q.1:Nat)),(100600,.al (0,600) (1,600))],[(4,ptb ptN),(9,ptb q.2.2),(600,bbx 601 602),(601,lvr q.2.1.lv),(602,fwr q.2.1.fo)],U3 H⟩)
  (fun q=>q.1≤ks.length∧bdU (ks.drop q.1) q.2.1 q.2.2=F∧(∃Z,Bl O1 Z t q.2.1 q.2.2)∧(q.2.1.lv.length:Int)+pnL (ks.drop q.1)≤64) (fun q=>ks.length-q.1) ?_ (0,t,ptN) ⟨zAf _,hF,⟨_,Bl.none (Ex.refl hs.len)⟩,hl⟩) rfl rfl
 rintro⟨i,t',p⟩ ⟨i1,i2,⟨Z,i3⟩,i4⟩ ih
 simp only at i1 i2 i3 i4 ih⊢
 by_cases hlt:i<ks.length
 ·obtain⟨k,hki⟩:∃k,ks[i]? =some k:=⟨_,zA0 hlt⟩
  have hmem:=zA2 hki
  have hvk:=z4z hv k hmem
  have hP:=zf7.1 k hvk
  have hPr:0≤pnL (ks.drop (i+1)):=zhb hv (i+1)
  rw[drop_cons hki,pnL]at i4
  rw[drop_cons hki,bdU]at i2
  obtain⟨s1,pf,pl⟩:=i3.sm hs (by omega)
  have hko:=y11 hvk
  have hbl:=hko.bl t' s1.len
  have hfw:=hko.few t' s1.len
  obtain⟨s2,qf,ql⟩:=hbl.sm s1 (by omega)
  have hk1:=hk k hmem t' s1 (by omega)
  generalize hB:bd k t'=r1 at *
  obtain⟨t1,q⟩:=r1
  have hfw2:(t1.lv.length:Int)≤t'.lv.length+pn k:=hfw
  obtain⟨ok,mk,xk,rk,kk⟩:=k
  rw[z4g]at hk1
  dsimp only[zih,hks]at hk1
  have ih':=ih (i+1,t1,por p q) ⟨by simp only;omega,i2,⟨_,i3.or hbl⟩,by simp only;omega⟩ (by simp only;omega)
  obtain⟨qf',ql',qn⟩:=q
  obtain⟨pf',pl',pnn⟩:=p
  dsimp only[por,ptb]at ih' qf ql pf pl⊢
  have ho1:=y2k pf qf
  have ho2:=y2k pl ql
  cases pnn with
  | true =>
   rw[Bool.true_or]at ih'
   all_goals exact zD50
  | false =>
   rw[Bool.false_or]at ih'
   all_goals exact zD50
 ·obtain rfl:i=ks.length:=by omega
  rw[zAs,bdU]at i2
  rw[←i2]
  repeat' first|refine z04 ?_|refine fk (fun _=>?_) fun _=>?_
  all_goals exact zD15
theorem zzp(op mn mx:Int)(rs:List Rg)(ks:List Rx)(h1:op≠1)(h2:op≠2)(h3:op≠3)(t:Tb)(r:Tb × Pt)(hr:zih 132 [.d (Drx (.mk op mn mx rs ks))] t r):zih 92 [.d (Drx (.mk op mn mx rs ks))] t r:=by
 rw[z4g]at hr⊢
 dsimp only[zih,hks]at hr
 refine z90 fun H hH hG1 hG2 hQ1 hQ2=>?_
 have hH0:=hH ((0,600),bbx 601 602) (by simp)
 have hH1:=hH ((0,601),lvr t.lv) (by simp)
 have hH2:=hH ((0,602),fwr t.fo) (by simp)
 refine z4o func92 (by kernel_rfl) rfl (by simp) ?_
 dsimp only[f92]
 refine z4d 600 0 600 hH0 rfl rfl ?_
 refine z1k 601 0 601 (z08 hH1 (by simp)) rfl rfl ?_
 refine z1k 602 0 602 (z08 (z08 hH2 (by simp)) (by simp)) rfl rfl ?_
 refine z3l 100601 rfl ?_
 refine z3l 100602 rfl ?_
 repeat' first|(apply z0r;refine z8w hr rfl rfl rfl (by decide) rfl rfl rfl (by decide) rfl rfl rfl rfl ?_)|refine z04 ?_|refine fk (fun _=>?_) fun _=>?_
 all_goals exact zD15
theorem zt0:∀e:Rx,vns e=true→fit e→KB e:=by
 refine Rx.ind' fun op mn mx rs ks ih hv hf t hs hl=>?_
 rw[vns,zA7]at hv
 rw[fit]at hf
 have ih':∀k∈ks,KB k:=fun k hk=>ih k hk (z4z hv.2 k hk) (z9r hf.2.2 k hk)
 have hvn:=hv.1
 rw[vn]at hvn
 by_cases h1:op=1
 ·subst h1
  rw[Rx.pn,zAz rfl]at hl
  exact y0s mn mx rs ks t hs hl
 rw[zAy h1]at hvn
 by_cases h2:op=2
 ·subst h2
  rw[Rx.pn,zAy (by decide),zAy (by decide)]at hl
  exact zxn mn mx rs ks hf.2.1 hv.2 ih' t hs hl
 rw[zAy h2]at hvn
 by_cases h3:op=3
 ·subst h3
  rw[Rx.pn,zAy (by decide),zAy (by decide)]at hl
  exact zxe mn mx rs ks hf.2.1 hv.2 ih' t hs hl
 rw[zAy h3]at hvn
 by_cases h4:op=4
 ·subst h4
  rw[zAz rfl]at hvn
  simp only[zA7,zAu,zA3]at hvn
  obtain⟨⟨⟨⟨a1,a2⟩,a3⟩,a4⟩,a5⟩:=hvn
  match ks,a2,ih',hv,hl with
  | [k],_,ih',hv,hl =>
   have hvk:=z4z hv.2 k (by simp)
   rw[Rx.pn,zAy (by decide),zAz rfl,pnL,pnL,Int.add_zero]at hl
   have hb:bd (.mk 4 mn mx rs [k]) t=rp (bd k) mn mx t:=by
    rw[bd,zAy (by decide),zAy (by decide),zAy (by decide)]
    have:(fun t=>bd1 [k] t)=bd k:=by funext t;rw[bd1]
    rw[this]
   rw[hb]
   exact zzp 4 mn mx rs [k] (by decide) (by decide) (by decide) t _ (yad 4 mn mx rs k hvk (ih' k (by simp)) a3 a4 a5 t hs hl)
 ·rw[zAy h4]at hvn;cases hvn
abbrev tb0:Tb:=⟨[],[]⟩
abbrev ofB(e:Rx):Blk:=tbx (bd e tb0).1.lv (bd e tb0).2.f (bd e tb0).2.l (bd e tb0).1.fo (bd e tb0).2.nu
theorem ydh(e:Rx)(hk:zih 92 [.d (Drx e)] tb0 (bd e tb0))(H:Hf):Ab.Spec prog 52 [.d (Drx e)] H (fun r H'=>r=.new (ofB e)∧H'=H):=by
 dsimp only[ofB]
 generalize hB:bd e tb0=r1 at *
 obtain⟨⟨lv,fo⟩,p⟩:=r1
 obtain⟨op,mn,mx,rs,ks⟩:=e
 rw[z4g]at hk⊢
 dsimp only[zih,hks]at hk
 refine z05 func52 (by kernel_rfl) rfl (by simp) ?_
 dsimp only[f52]
 repeat' first|(apply z0r;refine z8w hk rfl rfl rfl (by decide) rfl rfl rfl (by decide) rfl rfl rfl rfl ?_)|(apply z1n;(refine z09 z3s ?_;refine zie 6 600 rfl rfl ?_;refine zg9 600 0 601 48 1 rfl rfl rfl rfl ?_;refine zg9 600 3 602 108 1 rfl rfl rfl rfl ?_))|refine z04 ?_|fail
 all_goals try omega
 refine z0o 601 rfl ?_
 refine z0o 602 rfl ?_
 refine z03 func52 _ (zry (ms:=600) rfl rfl rfl rfl) ⟨rfl,rfl⟩
theorem ye8(e:Rx)(hv:vns e=true)(hf:fit e)(hp:Rx.pn e≤64)(H:Hf):Ab.Spec prog 52 [.d (Drx e)] H (fun r H'=>r=.new (ofB e)∧H'=H):=ydh e (zt0 e hv hf tb0 ⟨rfl,by simp⟩ (by simp;exact hp)) H
end Go.Proofs.YtmcggompdmngmaaGreatDoor
