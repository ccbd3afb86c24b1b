/- A part of the proof: G22 to G28. -/
import Derived.Test.YthdfkabdoidjfaaGreatDoorQt
import Derived.Test.YthdfkabdoidjfaaGreatDoorQc
import Derived.Test.YthdfkabdoidjfaaGreatDoorQx
set_option linter.all false
namespace Go.Proofs.YthdfkabdoidjfaaGreatDoor
open Go.Ab Go.Rx
set_option maxHeartbeats 20000000
set_option maxRecDepth 100000
attribute [local irreducible] Run Ops Op1 z2i Val Tr z0z z27 NF Rel z3r z3s
abbrev n64 (x:Nat):List D:=[zxa (x:Nat)]
abbrev lvs (l:List (List Rg)):D:=.slice (l.map fun r=>[rgs r])
abbrev tbx (lv:List (List Rg)) (f l:Nat) (fo:List Nat) (nu:Bool):Blk:=.box [.d (lvs lv),I .u64 (f:Nat),I .u64 (l:Nat),.d (.slice (fo.map n64)),B nu]
theorem zz6 {l:List Nat} {k:Nat} {x:Nat} (h:l[k]? =some x):(l.map n64)[((k:Nat):Int).toNat]? =some (n64 x):=by simp[h]
theorem zuo {X:Nat} (lv:List (List Rg)) (f l:Nat) (fo:List Nat) (nu:Bool) (S:Nat) (hS:S<2 ^ 64) (hfo:fo.length≤64) (hfx:∀ x∈fo,x<2 ^ 64) (beg:Bool) (e0:Nat) :
 z27 Tryz.prog 60 [.ptr (e0,X) 0,I .u64 (S:Nat),B beg] [((e0,X),tbx lv f l fo nu)] [] (I .u64 ((if beg=true then f else nxF S 0 0 fo:Nat):Int)):=by
 refine z2f fun H hH=>?_
 have hX:H e0 X=some (tbx lv f l fo nu):=hH ((e0,X),tbx lv f l fo nu) (by simp)
 refine z0m Tryz.func60 (by kernel_rfl) rfl (by simp) ?_
 dsimp only[Tryz.f60]
 cases beg with
 | true =>
  rw[zAz rfl]
  repeat' (first|(apply z07;(first|refine z0p ?_| (apply z0a;(refine z3p rfl hX rfl rfl rfl rfl (by decide) ?_))|(apply z0e;(refine z02 z0s rfl rfl ?_))))|(apply z08;(first|refine z0o ?_|apply z09))|(apply z05;(first|apply z06|apply z00|refine z1d ?_)))
  all_goals try (exfalso;omega)
  all_goals exact z0q Tryz.func60 _ z1e ⟨rfl,rfl⟩
 | false =>
  rw[zAy (by decide)]
  repeat' (first|(apply z07;(first|refine z0p ?_| (apply z0a;(refine z3p rfl hX rfl rfl rfl rfl (by decide) ?_))|(apply z0e;(refine z02 z0s rfl rfl ?_))|(apply z14;(refine z02 (z1j rfl) rfl rfl ?_))))|(apply z08;(first|refine z0o ?_|apply z09))|(apply z05;(first|apply z06|apply z00|refine z0w ?_| apply z04|apply z01)))
  all_goals try (exfalso;omega)
  refine z16 ?_
  refine z0c (z1u (fun q:Nat × Nat=>⟨35,[(1,I .u64 (S:Nat)),(18,.d (.slice (fo.map n64))),(19,I .i64 fo.length),(20,I .i64 (q.1:Nat)),(7,I .u64 (q.2:Nat))],[],H⟩) (fun q=>q.1≤fo.length∧q.2<2 ^ 64∧nxF S q.1 q.2 (fo.drop q.1)=nxF S 0 0 fo) (fun q=>fo.length-q.1) ?_ (0,0) ⟨zAf _,by decide,rfl⟩) rfl rfl
  rintro⟨q,acc⟩ ⟨i1,i2,i3⟩ ih
  simp only at i1 i2 i3 ih ⊢
  by_cases hlt:q<fo.length
  · obtain⟨x,hx⟩:∃ x,fo[q]? =some x:=⟨_,zA0 hlt⟩
    have hxl:=hfx x (zA2 hx)
    rw[drop_cons hx,nxF] at i3
    have hb:=ztv (i:=q) hS (by omega)
    have ho:=y0w i2 hxl
    by_cases ht:S.testBit q=true
    · rw[zAz ht] at i3 hb
      repeat' (first|(apply z07;(first|refine z0p ?_| (apply z0a;(refine z02 z22 rfl rfl ?_))|(apply z0i;(refine z02 (z0v (ys:=fo.map n64) rfl (zz6 hx)) rfl rfl ?_))|(apply z0n;(first|refine z02 (zc3 (by omega)) rfl rfl ?_| refine z02 z7o rfl rfl ?_| refine z02 zi8 rfl rfl ?_| refine z02 (z0r z0y) rfl rfl ?_))))|(apply z08;(first|refine z0o ?_|apply z09))|(apply z05;(first|apply z06|apply z00|apply z04|apply z01|apply z03|refine z0f (fun _=>?_) (fun _=>?_)| refine z0h ?_)))
      all_goals try (exfalso;omega)
      all_goals (rw[ho];exact z0c (ih (q+1,acc ||| x) ⟨by simp only;omega,Nat.or_lt_two_pow i2 hxl,i3⟩ (by simp only;omega)) rfl rfl)
    · rw[zAy ht] at i3 hb
      repeat' (first|(apply z07;(first|refine z0p ?_| (apply z0a;(refine z02 z22 rfl rfl ?_))|(apply z0i;(refine z02 (z0v (ys:=fo.map n64) rfl (zz6 hx)) rfl rfl ?_))|(apply z0n;(first|refine z02 (zc3 (by omega)) rfl rfl ?_| refine z02 z7o rfl rfl ?_| refine z02 zi8 rfl rfl ?_| refine z02 (z0r z0y) rfl rfl ?_))))|(apply z08;(first|refine z0o ?_|apply z09))|(apply z05;(first|apply z06|apply z00|apply z04|apply z01|apply z03|refine z0f (fun _=>?_) (fun _=>?_)| refine z0h ?_)))
      all_goals try (exfalso;omega)
      all_goals exact z0c (ih (q+1,acc) ⟨by simp only;omega,i2,i3⟩ (by simp only;omega)) rfl rfl
  · obtain rfl:q=fo.length:=by omega
    rw[zAs,nxF] at i3
    rw[← i3]
    repeat' (first|(apply z07;(refine z0p ?_))|(apply z08;(first|refine z0o ?_|apply z09))|(apply z05;(first|apply z06|apply z00|apply z04|apply z01|refine z0f (fun _=>?_) (fun _=>?_)| refine z0h ?_)))
    all_goals try (exfalso;omega)
    all_goals exact z0q Tryz.func60 _ z1e ⟨rfl,rfl⟩
abbrev bbx (Y Z:Nat):Blk:=.box [.ref (0,Y),I .u64 0,I .u64 0,.ref (0,Z),B false]
theorem zaq (a b:Nat):∀ (l:List Nat) (i:Nat),(lnk a b i l).length=l.length
 | [],_=>rfl
 | x::l,i=>by rw[lnk,zAk,zAk,zaq a b l]
theorem zb6 (a b:Nat):∀ (l:List Nat) (i q:Nat) (x:Nat),l[q]? =some x→(lnk a b i l)[q]? =some (if a.testBit (i+q)=true then x ||| b else x)
 | y::l,i,0,x,h=>by simp at h;subst h;rw[lnk];simp
 | y::l,i,q+1,x,h=>by
  rw[List.getElem?_cons_succ] at h
  rw[lnk,List.getElem?_cons_succ,zb6 a b l (i+1) q x h,show i+1+q=i+(q+1) by omega]
theorem ztn {L fo:List Nat} {q v x:Nat} (hL:L[q]? =some v) (hx:fo[q]? =some x):(L.take q++fo.drop q).set q v=L.take (q+1)++fo.drop (q+1):=by
 have hq:=(zA1.1 hL).1
 have hl:(L.take q).length=q:=by rw[zAm];omega
 rw[drop_cons hx,z5s hL,zAl,List.set_append_right _ _ (by omega),hl,Nat.sub_self]
 rfl
theorem zsg {P:Program} {f:FuncId} {R:z42} {k:List Item} {all:Array Oper} {l:List Oper} {n:Nat} {tm:List (Nat × PV)} {hp:Hp} {up:Hf} {ty:TypeId} {pos:String} {aft:Array Edge} {gd:Option (Nat × Bool)} {t e:TypeId} {ti:TI} {x y:Operand} {md ms kk i off:Nat} {p:PV} {ys ys':List (List D)} {z:List D} {ps:List PV} {ds:List D} [ht:z1i P t ti] (hev:St.evs ⟨n,tm,hp,up⟩ [x,y]=some [.rptr (md+1,ms) kk i off,p]) (hb:up md ms=some (.row e kk ys)) (hp':cellsOf p=some ps) (hds:z7w ps=some ds)
 (hz:ys[i]? =some z) (hs:ds.length=ti.size) (hf:decide (off+ds.length≤kk)=true) (hys:ys.set i (z1f z off ds)=ys') (h:Ops P f R all l k ⟨n,tm,hp,upd up (md,ms) (.row e kk ys')⟩):Op1 P f R all ⟨none,.store t x y,ty,pos,aft,gd⟩ l k ⟨n,tm,hp,up⟩ :=
 zlg (m:=(md+1,ms)) hev hb hp' hds hz hs hf hys rfl h
theorem zx9 {X Y Z:Nat} (hXZ:X≠Z) (fo:List Nat) (a b:Nat) (ha:a<2 ^ 64) (hb:b<2 ^ 64) (hfo:fo.length≤64) (hfx:∀ x∈fo,x<2 ^ 64) (e0:Nat) :
 z27 Tryz.prog 125 [.ptr (e0,X) 0,I .u64 (a:Nat),I .u64 (b:Nat)] [((e0,X),bbx Y Z),((e0,Z),.row 76 1 (fo.map n64))] [((e0,Z),.row 76 1 ((lnk a b 0 fo).map n64))] (.tup []):=by
 refine z2f fun H hH=>?_
 have hX:H e0 X=some (bbx Y Z):=hH ((e0,X),bbx Y Z) (by simp)
 have hZ:H e0 Z=some (.row 76 1 (fo.map n64)):=hH ((e0,Z),.row 76 1 (fo.map n64)) (by simp)
 have hZ':H (0+e0) Z=some (.row 76 1 (fo.map n64)):=by rw[Nat.zero_add];exact hZ
 have hll:(lnk a b 0 fo).length=fo.length:=zaq a b fo 0
 refine z0m Tryz.func125 (by kernel_rfl) rfl (by simp) ?_
 dsimp only[Tryz.f125]
 repeat' (first|(apply z07;(first|refine z0p ?_| (apply z0a;(refine z3p rfl hX rfl rfl rfl rfl (by decide) ?_))|(apply z0e;(refine z02 z0s rfl rfl ?_))|(apply z14;(refine z02 (z1h rfl) rfl (bkN hZ') ?_))))|(apply z08;(first|refine z0o ?_|apply z09))|(apply z05;(first|apply z06|apply z00|apply z01)))
 all_goals try (exfalso;omega)
 refine z16 ?_
 refine y20 (m:=(0+e0,Z)) hZ' ?_
 refine z0c (z1u (fun q:Nat=>⟨31,[(0,.ptr (e0+1,X) 0),(1,I .u64 (a:Nat)),(2,I .u64 (b:Nat)),(11,I .i64 fo.length),(12,I .i64 (q:Nat))],[],upd H (0+e0,Z) (.row 76 1 (((lnk a b 0 fo).take q++fo.drop q).map n64))⟩) (fun q=>q≤fo.length) (fun q=>fo.length-q) ?_ 0 (zAf _)) rfl rfl
 intro q i1 ih
 by_cases hlt:q<fo.length
 · obtain⟨x,hx⟩:∃ x,fo[q]? =some x:=⟨_,zA0 hlt⟩
   have hxl:=hfx x (zA2 hx)
   obtain⟨W,hW⟩:∃ W,(lnk a b 0 fo).take q++fo.drop q=W:=⟨_,rfl⟩
   have hWq:W[q]? =some x:=by rw[← hW,zAg (by rw[zAm];omega),zAm,hll,Nat.min_eq_left i1,Nat.sub_self,List.getElem?_drop];exact hx
   have hXW:upd H (0+e0,Z) (.row 76 1 (W.map n64)) e0 X=some (bbx Y Z):=z1n hX (by simp[hXZ])
   have hZW:upd H (0+e0,Z) (.row 76 1 (W.map n64)) (0+e0) Z=some (.row 76 1 (W.map n64)):=z2t _ _ _
   have hWl:W.length=fo.length:=by rw[← hW,zAa,zAm,List.length_drop,hll];omega
   rw[hW]
   have hbt:=ztv (S:=a) (i:=q) ha (by omega)
   have hor:=y0w hxl hb
   have hLg:=zb6 a b fo 0 q x hx
   rw[Nat.zero_add] at hLg
   have hst:=ztn hLg hx
   rw[hW] at hst
   have ih':=ih (q+1) (by omega) (by omega)
   rw[← hst] at ih'
   have hys:(W.map n64).set ((q:Nat):Int).toNat [zxa (orV .u64 (x:Nat) (b:Nat))]=(W.set q (x ||| b)).map n64:=by rw[hor,zA9,List.map_set]
   have hidx:(W.map n64)[((q:Nat):Int).toNat]? =some (n64 x):=zz6 hWq
   by_cases ht:a.testBit q=true
   · rw[zAz ht] at hbt ih'
     repeat' (first|(apply z07;(first|refine z0p ?_| (apply z0a;(first|refine z02 (zow hidx rfl rfl rfl) rfl (bkN hZW) ?_| refine z3p rfl hXW rfl rfl rfl rfl (by decide) ?_))|(apply z0e;(refine z02 z0s rfl rfl ?_))|(apply z0i;(refine z02 (z2d rfl (by rw[zA4];omega)) rfl (bkN hZW) ?_))|(apply z0n;(first|refine z02 (zc3 (by omega)) rfl rfl ?_| refine z02 z7o rfl rfl ?_| refine z02 zi8 rfl rfl ?_| refine z02 (z0r z0y) rfl rfl ?_))|(apply z0d;(refine zsg (md:=0+e0) (ms:=Z) rfl hZW rfl rfl hidx rfl rfl hys ?_))))|(apply z08;(first|refine z0o ?_|apply z09))|(apply z05;(first|apply z06|apply z00|apply z04|apply z01|apply z03|refine z0f (fun _=>?_) (fun _=>?_)| refine z0h ?_)))
     all_goals try (exfalso;omega)
     all_goals (rw[z4j];exact z0c ih' rfl rfl)
   · rw[zAy ht] at hbt ih'
     have hid:W.set q x=W:=by
      obtain⟨g1,g2⟩:=zA1.1 hWq
      rw[← g2];exact List.set_getElem_self g1
     rw[hid] at ih'
     repeat' (first|(apply z07;(first|refine z0p ?_| (apply z0e;(refine z02 z0s rfl rfl ?_))|(apply z0n;(first|refine z02 (zc3 (by omega)) rfl rfl ?_| refine z02 z7o rfl rfl ?_| refine z02 (z0r z0y) rfl rfl ?_))))|(apply z08;(first|refine z0o ?_|apply z09))|(apply z05;(first|apply z06|apply z00|apply z04|apply z01|apply z03|refine z0f (fun _=>?_) (fun _=>?_)| refine z0h ?_)))
     all_goals exact zD6
 · obtain rfl:q=fo.length:=by omega
   rw[zAs,List.append_nil,← hll,List.take_length]
   repeat' (first|(apply z07;(refine z0p ?_))|(apply z08;(first|refine z0o ?_|apply z09))|(apply z05;(first|apply z06|apply z00|apply z04|apply z01|refine z0f (fun _=>?_) (fun _=>?_)| refine z0h ?_)))
   all_goals try (exfalso;omega)
   all_goals exact zcx Tryz.func125 _ (z3e rfl) ⟨rfl,by rw[Nat.zero_add];rfl⟩
theorem zkh {P:Program} {f:FuncId} {R:z42} {k:List Item} {all:Array Oper} {l:List Oper} {n:Nat} {tm:List (Nat × PV)} {hp:Hp} {up:Hf} {d:Nat} {ty:TypeId} {pos:String} {aft:Array Edge} {gd:Option (Nat × Bool)} {p:PV} {g:FuncId} {args:List Operand} {ps:List PV} {ats:Array TypeId} {md m1 m2:Nat} {b1 b2 b':Blk}
 (hsp:z27 P g ps [((md+1,m1),b1),((md+1,m2),b2)] [((md+1,m2),b')] p) (hev:St.evs ⟨n,tm,hp,up⟩ args=some ps) (h1:up md m1=some b1) (h2:up md m2=some b2) (hd:d<n)
 (h:Ops P f R all l k ⟨n,(d,p)::tm,hp,upd up (md,m2) b'⟩):Op1 P f R all ⟨some d,.call ⟨.value (.func g),args.toArray,ats⟩,ty,pos,aft,gd⟩ l k ⟨n,tm,hp,up⟩ :=
 zis hsp hev (z3l (m:=(md+1,m1)) h1 (z3l (m:=(md+1,m2)) h2 zxr)) hd rfl h
abbrev ptc (p:Pt):List D:=[zxa (p.f:Nat),zxa (p.l:Nat),z8c p.nu]
theorem y28 {X Y Z:Nat} (hXZ:X≠Z) (fo:List Nat) (a b:Pt) (ha1:a.f<2 ^ 64) (ha2:a.l<2 ^ 64) (hb1:b.f<2 ^ 64) (hb2:b.l<2 ^ 64) (hfo:fo.length≤64) (hfx:∀ x∈fo,x<2 ^ 64) (lv:List (List Rg)) (e0:Nat) :
 z27 Tryz.prog 119 [.ptr (e0,X) 0,.d (.agg (ptc a)),.d (.agg (ptc b))] [((e0,X),bbx Y Z),((e0,Z),.row 76 1 (fo.map n64))] [((e0,Z),.row 76 1 ((lnk a.l b.f 0 fo).map n64))] (.d (.agg (ptc (zc9 a b ⟨lv,fo⟩).2))):=by
 refine z2f fun H hH=>?_
 have hX:H e0 X=some (bbx Y Z):=hH ((e0,X),bbx Y Z) (by simp)
 have hZ:H e0 Z=some (.row 76 1 (fo.map n64)):=hH ((e0,Z),.row 76 1 (fo.map n64)) (by simp)
 have hl:=zx9 (X:=X) (Y:=Y) (Z:=Z) hXZ fo a.l b.f ha2 hb1 hfo hfx (e0+1)
 have ho1:=y0w ha1 hb1
 have ho2:=y0w hb2 ha2
 obtain⟨af,al,an⟩:=a
 obtain⟨bf,bl,bn⟩:=b
 refine z0m Tryz.func119 (by kernel_rfl) rfl (by simp) ?_
 dsimp only[Tryz.f119,zc9]
 simp only at hl ho1 ho2
 cases an <;> cases bn <;> skip
 all_goals (try simp only[if_true,if_false,Bool.false_eq_true])
 all_goals (try rw[← ho1]) 
 all_goals (try rw[← ho2])
 · repeat' (first|(apply z07;(first|refine z0p ?_| (apply z0a;(first|refine z02 z1m rfl rfl ?_| refine z02 z2j rfl rfl ?_))|(apply z0e;(refine z02 z0s rfl rfl ?_))|(apply z0u;(refine zkh hl rfl hX hZ (by decide) ?_))|(apply z0d;(refine z2g ?_))|(apply z0k;(refine z0b z2q ?_))|(apply z1y;(refine z0b (z5z rfl rfl (by decide)) ?_))|(apply z15;(refine z3u ?_))))|(apply z08;(first|refine z0o ?_|apply z09|refine z1w ?_))|(apply z05;(first|apply z06|apply z00|refine z0w ?_| apply z04)))
   all_goals exact zD36
 · repeat' (first|(apply z07;(first|refine z0p ?_| (apply z0a;(first|refine z02 z1m rfl rfl ?_| refine z02 z2j rfl rfl ?_))|(apply z0e;(refine z02 z0s rfl rfl ?_))|(apply z0n;(refine z02 zi8 rfl rfl ?_))|(apply z0u;(refine zkh hl rfl hX hZ (by decide) ?_))|(apply z0d;(refine z2g ?_))|(apply z0k;(refine z0b z2q ?_))|(apply z1y;(refine z0b (z5z rfl rfl (by decide)) ?_))|(apply z15;(refine z3u ?_))))|(apply z08;(first|refine z0o ?_|apply z09|refine z1w ?_))|(apply z05;(first|apply z06|apply z00|refine z1d ?_| refine z0w ?_| apply z04)))
   all_goals exact zD36
 · repeat' (first|(apply z07;(first|refine z0p ?_| (apply z0a;(first|refine z02 z1m rfl rfl ?_| refine z02 z2j rfl rfl ?_))|(apply z0e;(refine z02 z0s rfl rfl ?_))|(apply z0n;(refine z02 zi8 rfl rfl ?_))|(apply z0u;(refine zkh hl rfl hX hZ (by decide) ?_))|(apply z0d;(refine z2g ?_))|(apply z0k;(refine z0b z2q ?_))|(apply z1y;(refine z0b (z5z rfl rfl (by decide)) ?_))|(apply z15;(refine z3u ?_))))|(apply z08;(first|refine z0o ?_|apply z09))|(apply z05;(first|apply z06|apply z00|refine z1d ?_| refine z0w ?_| apply z04)))
   all_goals exact zD36
 · repeat' (first|(apply z07;(first|refine z0p ?_| (apply z0a;(first|refine z02 z1m rfl rfl ?_| refine z02 z2j rfl rfl ?_))|(apply z0e;(refine z02 z0s rfl rfl ?_))|(apply z0n;(refine z02 zi8 rfl rfl ?_))|(apply z0u;(refine zkh hl rfl hX hZ (by decide) ?_))|(apply z0d;(refine z2g ?_))|(apply z0k;(refine z0b z2q ?_))|(apply z1y;(refine z0b (z5z rfl rfl (by decide)) ?_))|(apply z15;(refine z3u ?_))))|(apply z08;(first|refine z0o ?_|apply z09))|(apply z05;(first|apply z06|apply z00|refine z1d ?_)))
   all_goals exact zD36
attribute [local irreducible] zed
abbrev lv1 (r:List Rg):List D:=[rgs r]
abbrev lvr (lv:List (List Rg)):Blk:=.row 41 1 (lv.map lv1)
abbrev fwr (fo:List Nat):Blk:=.row 76 1 (fo.map n64)
abbrev bks (t:Tb):List (Nm × Blk):=[((0,600),bbx 601 602),((0,601),lvr t.lv),((0,602),fwr t.fo)]
abbrev hks (t:Tb):List (Nm × Blk):=[((0,600),.gone),((0,601),.gone),((0,602),.gone),((0,603),lvr t.lv),((0,604),fwr t.fo),((0,600),bbx 603 604)]
abbrev zjr (g:FuncId) (args:List PV) (t:Tb) (r:Tb × Pt):Prop:=zed Tryz.prog g (.ptr (0,600) 0::args) (bks t) (hks r.1) (.d (.agg (ptc r.2))) 603 604
theorem zct (op mn mx:Int) (rs:List Rg) (ks:List Rx):Drx (.mk op mn mx rs ks)=.agg (rx5 op mn mx rs ks):=congrArg D.agg (z4m op mn mx rs ks)
abbrev U3 (H:Hf):Hf:=upd (upd (upd H (0,600) .gone) (0,601) .gone) (0,602) .gone
abbrev ptb (p:Pt):Blk:=.box [.d (zxa (p.f:Nat)),.d (zxa (p.l:Nat)),.d (z8c p.nu)]
abbrev y5z (op mn mx:Int) (rs:List Rg) (c:List D):List D:=[z1x op,z1x mn,z1x mx,rgs rs,.slice [c]]
theorem zy7 (op mn mx:Int) (rs:List Rg) (ok mk xk:Int) (rk:List Rg) (kk:List Rx):rx5 op mn mx rs [.mk ok mk xk rk kk]=y5z op mn mx rs (rx5 ok mk xk rk kk):=by
 show [z1x op,z1x mn,z1x mx,rgs rs,.slice [rxc (.mk ok mk xk rk kk)]]=_
 rw[z4m]
theorem zmu (mn mx:Int) (rs:List Rg) (ks:List Rx) (t:Tb) (hs:Sm t) (hl:(t.lv.length:Int)+1≤64):zjr 105 [.d (Drx (.mk 1 mn mx rs ks))] t (bd (.mk 1 mn mx rs ks) t):=by
 rw[bd,zAz rfl,zct]
 have hsh:=y1p (i:=t.lv.length) (by omega)
 have e1:(t.lv.map lv1).length=t.lv.length:=zA4 _
 have e2:=hs.len
 refine zge fun H hH hG1 hG2 hQ1 hQ2=>?_
 have hH0:=hH ((0,600),bbx 601 602) (by simp)
 have hH1:=hH ((0,601),lvr t.lv) (by simp)
 have hH2:=hH ((0,602),fwr t.fo) (by simp)
 refine z7k Tryz.func105 (by kernel_rfl) rfl (by simp) ?_
 dsimp only[Tryz.f105]
 refine z50 600 0 600 hH0 rfl rfl ?_
 refine z2v 601 0 601 (z1n hH1 (by simp)) rfl rfl ?_
 refine z2v 602 0 602 (z1n (z1n hH2 (by simp)) (by simp)) rfl rfl ?_
 refine z8l 100601 rfl ?_
 refine z8l 100602 rfl ?_
 repeat' (first | (apply z07; (first | refine z0p ?_| (apply z0a; (refine z02 z1m rfl rfl ?_)) | (apply z0e; (refine z02 z0s rfl rfl ?_)) | (apply z0n; (refine z02 (zov (by omega)) rfl rfl ?_)) | (apply z14; (first | refine z30 (g := n64) 0 rfl ?_| refine z02 (zbx rfl) rfl rfl ?_)) | (apply z0d; (refine z2g ?_)) | (apply z0k; (refine z0b z2q ?_)) | (apply z1y; (refine z0b (z5z rfl rfl (by decide)) ?_)) | (apply z15; (refine z3u ?_)) | (apply z2h; (refine z2n rfl ?_)))) | (apply z08; (first | refine z0o ?_ | apply z09)) | (apply z05; (first | apply z06 | apply z00 | refine z1d ?_| apply z01 | apply z23)) | (apply z25; (first | refine z29 ?_| (apply z0j; (refine z0g z1m rfl rfl ?_)) | (apply z13; (refine z0g z0s rfl rfl ?_)) | (apply z4l; (refine z6f (g := lv1) (by first | exact rfl | exact ⟨_, rfl, rfl, rfl⟩) rfl rfl rs rfl rfl rfl rfl rfl rfl rfl (by decide) (by omega) ?_)) | (apply z1s; ((refine zw4 mix (by kernel_rfl) ?_) /- zk2 -/)) | (apply z5x; (refine z9i rfl ?_)))))
 all_goals try (exfalso;omega)
 all_goals refine z8p 31 603 rfl (z1n (z1n (z1n hG1 (by simp)) (by simp)) (by simp)) (Or.inl rfl) rfl (Quiet.upd (Quiet.upd (Quiet.upd hQ1 rfl) rfl) rfl) ?_
 all_goals refine z8p 40 604 rfl (z1n (z1n (z1n (z1n hG2 (by simp)) (by simp)) (by simp)) (by simp)) (Or.inr rfl) rfl (Quiet.upd (Quiet.upd (Quiet.upd (Quiet.upd hQ2 rfl) rfl) rfl) rfl) ?_
 all_goals refine z4k (raw:=bbx 603 604) 600 0 600 ?_
 refine z0q Tryz.func105 _ (z4c rfl rfl rfl rfl rfl rfl) ⟨by dsimp only[ptc];rw[← hsh,← e1];rfl,rfl⟩
theorem ztb (op mn mx:Int) (rs:List Rg) (ks:List Rx) (h1:op≠1) (h2:op≠2) (h3:op≠3) (t:Tb) (r:Tb × Pt) (hr:zjr 120 [.d (Drx (.mk op mn mx rs ks))] t r):zjr 105 [.d (Drx (.mk op mn mx rs ks))] t r:=by
 rw[zct] at hr ⊢
 dsimp only[zjr,hks] at hr
 refine zge fun H hH hG1 hG2 hQ1 hQ2=>?_
 have hH0:=hH ((0,600),bbx 601 602) (by simp)
 have hH1:=hH ((0,601),lvr t.lv) (by simp)
 have hH2:=hH ((0,602),fwr t.fo) (by simp)
 refine z7k Tryz.func105 (by kernel_rfl) rfl (by simp) ?_
 dsimp only[Tryz.f105]
 refine z50 600 0 600 hH0 rfl rfl ?_
 refine z2v 601 0 601 (z1n hH1 (by simp)) rfl rfl ?_
 refine z2v 602 0 602 (z1n (z1n hH2 (by simp)) (by simp)) rfl rfl ?_
 refine z8l 100601 rfl ?_
 refine z8l 100602 rfl ?_
 repeat' (first|(apply z07;(first|refine zqp hr rfl rfl rfl (by decide) rfl rfl rfl (by decide) rfl rfl rfl rfl ?_|refine z0p ?_| (apply z0a;(first|refine z02 z3k rfl rfl ?_| refine z02 z1m rfl rfl ?_))|(apply z0e;(refine z02 z0s rfl rfl ?_))|(apply z14;(first|refine z02 (z1j rfl) rfl rfl ?_| refine z02 (z1h rfl) rfl rfl ?_))|(apply z0d;(refine z2g ?_))|(apply z0k;(refine z0b z2q ?_))|(apply z1y;(refine z0b (z5z rfl rfl (by decide)) ?_))|(apply z15;(refine z3u ?_))))|(apply z08;(first|refine z0o ?_|apply z09))|(apply z05;(first|apply z06|apply z00|apply z04|apply z01|apply z03|refine z0f (fun _=>?_) (fun _=>?_))))
 all_goals exact zD43
abbrev tb0:Tb:=⟨[],[]⟩
abbrev ofB (e:Rx):Blk:=tbx (bd e tb0).1.lv (bd e tb0).2.f (bd e tb0).2.l (bd e tb0).1.fo (bd e tb0).2.nu
theorem y6b (e:Rx) (hk:zjr 105 [.d (Drx e)] tb0 (bd e tb0)) (H:Hf):Ab.Spec Tryz.prog 57 [.d (Drx e)] H (fun r H'=>r=.new (ofB e)∧H'=H):=by
 dsimp only[ofB]
 generalize hB:bd e tb0=r1 at *
 obtain⟨⟨lv,fo⟩,p⟩:=r1
 obtain⟨op,mn,mx,rs,ks⟩:=e
 rw[zct] at hk ⊢
 dsimp only[zjr,hks] at hk
 refine z0m Tryz.func57 (by kernel_rfl) rfl (by simp) ?_
 dsimp only[Tryz.f57]
 repeat' (first|(apply z07;(first|refine zqp hk rfl rfl rfl (by decide) rfl rfl rfl (by decide) rfl rfl rfl rfl ?_|refine z0p ?_| (apply z0a;(refine z02 z2j rfl rfl ?_))|(apply z0d;(refine z2g ?_))|(apply z0k;(refine z0b z2q ?_))|(apply z1y;(first|(refine z0b z2e ?_;refine zg9 6 600 rfl rfl ?_;refine zeq 600 0 601 41 1 rfl rfl rfl rfl ?_;refine zeq 600 3 602 76 1 rfl rfl rfl rfl ?_)|refine z0b (z5z rfl rfl (by decide)) ?_))|(apply z15;(refine z3u ?_))))|(apply z08;(first|refine z0o ?_|apply z09))|(apply z05;(first|apply z06|apply z00|apply z23))|(apply z25;(first|(apply z0t;refine z1b mix ?_)|refine z29 ?_| (apply z0j;(refine z0g z1m rfl rfl ?_))|(apply z13;(refine z0g z0s rfl rfl ?_))|(apply z1s;(refine z57 (by first|exact rfl|exact⟨_,rfl,rfl,rfl⟩) rfl rfl rfl rfl rfl rfl ?_)))))
 all_goals try (exfalso;omega)
 refine z1r 601 rfl ?_
 refine z1r 602 rfl ?_
 refine z0q Tryz.func57 _ (zy6 (ms:=600) rfl rfl rfl rfl) ⟨rfl,rfl⟩
end Go.Proofs.YthdfkabdoidjfaaGreatDoor
