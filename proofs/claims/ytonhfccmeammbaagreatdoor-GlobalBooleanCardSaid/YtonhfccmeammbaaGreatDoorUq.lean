/- A part of the proof: G22 to G28. -/
import Derived.Test.YtonhfccmeammbaaGreatDoorUt
import Derived.Test.YtonhfccmeammbaaGreatDoorUc
import Derived.Test.YtonhfccmeammbaaGreatDoorUx
set_option linter.all false
namespace Go.Proofs.YtonhfccmeammbaaGreatDoor
open Go.Ab Go.Rx
set_option maxHeartbeats 20000000
set_option maxRecDepth 100000
attribute [local irreducible] Run Ops Op1 z1x Val Tr z0m z1r NF Rel z83 z7w
abbrev n64 (x:Nat):List D:=[zub (x:Nat)]
abbrev lvs (l:List (List Rg)):D:=.slice (l.map fun r=>[rgs r])
abbrev tbx (lv:List (List Rg)) (f l:Nat) (fo:List Nat) (nu:Bool):Blk:=.box [.d (lvs lv),I .u64 (f:Nat),I .u64 (l:Nat),.d (.slice (fo.map n64)),B nu]
theorem zte {l:List Nat} {k:Nat} {x:Nat} (h:l[k]? =some x):(l.map n64)[((k:Nat):Int).toNat]? =some (n64 x):=by simp[h]
theorem zpo {X:Nat} (lv:List (List Rg)) (f l:Nat) (fo:List Nat) (nu:Bool) (S:Nat) (hS:S<2 ^ 64) (hfo:fo.length≤64) (hfx:∀ x∈fo,x<2 ^ 64) (beg:Bool) (e0:Nat) :
 z1r Tryz.prog 153 [.ptr (e0,X) 0,I .u64 (S:Nat),B beg] [((e0,X),tbx lv f l fo nu)] [] (I .u64 ((if beg=true then f else nxF S 0 0 fo:Nat):Int)):=by
 refine z2h fun H hH=>?_
 have hX:H e0 X=some (tbx lv f l fo nu):=hH ((e0,X),tbx lv f l fo nu) (by simp)
 refine z0g Tryz.func153 (by kernel_rfl) rfl (by simp) ?_
 dsimp only[Tryz.f153]
 cases beg with
 | true =>
  rw[zAy rfl]
  repeat' (first|(apply z04;(first|refine z0l ?_| (apply z0a;(refine z6z rfl hX rfl rfl rfl rfl (by decide) ?_))|(apply z0d;(refine z02 z1a rfl rfl ?_))))|(apply z05;(first|refine z0k ?_|apply z09))|(apply z06;(first|apply z07|apply z00|refine z1b rfl ?_)))
  all_goals try (exfalso;omega)
  all_goals exact z0c Tryz.func153 _ z1j ⟨rfl,rfl⟩
 | false =>
  rw[zAx (by decide)]
  repeat' (first|(apply z04;(first|refine z0l ?_| (apply z0a;(refine z6z rfl hX rfl rfl rfl rfl (by decide) ?_))|(apply z0d;(refine z02 z1a rfl rfl ?_))|(apply z0x;(refine z02 (z0y rfl) rfl rfl ?_))))|(apply z05;(first|refine z0k ?_|apply z09))|(apply z06;(first|apply z07|apply z00|refine z1f ?_| apply z08|apply z01)))
  all_goals try (exfalso;omega)
  refine z0t ?_
  refine z0e (z1v (fun q:Nat × Nat=>⟨35,[(1,I .u64 (S:Nat)),(18,.d (.slice (fo.map n64))),(19,I .i64 fo.length),(20,I .i64 (q.1:Nat)),(7,I .u64 (q.2:Nat))],[],H⟩) (fun q=>q.1≤fo.length∧q.2<2 ^ 64∧nxF S q.1 q.2 (fo.drop q.1)=nxF S 0 0 fo) (fun q=>fo.length-q.1) ?_ (0,0) ⟨zAf _,by decide,rfl⟩) rfl rfl
  rintro⟨q,acc⟩ ⟨i1,i2,i3⟩ ih
  simp only at i1 i2 i3 ih ⊢
  by_cases hlt:q<fo.length
  · obtain⟨x,hx⟩:∃ x,fo[q]? =some x:=⟨_,zA0 hlt⟩
    have hxl:=hfx x (zA2 hx)
    rw[drop_cons hx,nxF] at i3
    have hb:=zty (i:=q) hS (by omega)
    have ho:=zrn i2 hxl
    by_cases ht:S.testBit q=true
    · rw[zAy ht] at i3 hb
      repeat' (first|(apply z04;(first|refine z0l ?_| (apply z0a;(refine z02 z2p rfl rfl ?_))|(apply z0n;(refine z02 (z1o (ys:=fo.map n64) rfl (zte hx)) rfl rfl ?_))|(apply z0z;(first|refine z02 (zhj (by omega)) rfl rfl ?_| refine z02 z9m rfl rfl ?_| refine z02 zck rfl rfl ?_| refine z02 (z14 z1p) rfl rfl ?_))))|(apply z05;(first|refine z0k ?_|apply z09))|(apply z06;(first|apply z07|apply z00|apply z08|apply z01|apply z03|refine z0h (fun _=>?_) (fun _=>?_)| refine z0o ?_)))
      all_goals try (exfalso;omega)
      all_goals (rw[ho];exact z0e (ih (q+1,acc ||| x) ⟨by simp only;omega,Nat.or_lt_two_pow i2 hxl,i3⟩ (by simp only;omega)) rfl rfl)
    · rw[zAx ht] at i3 hb
      repeat' (first|(apply z04;(first|refine z0l ?_| (apply z0a;(refine z02 z2p rfl rfl ?_))|(apply z0n;(refine z02 (z1o (ys:=fo.map n64) rfl (zte hx)) rfl rfl ?_))|(apply z0z;(first|refine z02 (zhj (by omega)) rfl rfl ?_| refine z02 z9m rfl rfl ?_| refine z02 zck rfl rfl ?_| refine z02 (z14 z1p) rfl rfl ?_))))|(apply z05;(first|refine z0k ?_|apply z09))|(apply z06;(first|apply z07|apply z00|apply z08|apply z01|apply z03|refine z0h (fun _=>?_) (fun _=>?_)| refine z0o ?_)))
      all_goals try (exfalso;omega)
      all_goals exact z0e (ih (q+1,acc) ⟨by simp only;omega,i2,i3⟩ (by simp only;omega)) rfl rfl
  · obtain rfl:q=fo.length:=by omega
    rw[zAr,nxF] at i3
    rw[← i3]
    repeat' (first|(apply z04;(refine z0l ?_))|(apply z05;(first|refine z0k ?_|apply z09))|(apply z06;(first|apply z07|apply z00|apply z08|apply z01|refine z0h (fun _=>?_) (fun _=>?_)| refine z0o ?_)))
    all_goals try (exfalso;omega)
    all_goals exact z0c Tryz.func153 _ z1j ⟨rfl,rfl⟩
abbrev bbx (Y Z:Nat):Blk:=.box [.ref (0,Y),I .u64 0,I .u64 0,.ref (0,Z),B false]
theorem zak (a b:Nat):∀ (l:List Nat) (i:Nat),(lnk a b i l).length=l.length
 | [],_=>rfl
 | x::l,i=>by rw[lnk,zAk,zAk,zak a b l]
theorem za5 (a b:Nat):∀ (l:List Nat) (i q:Nat) (x:Nat),l[q]? =some x→(lnk a b i l)[q]? =some (if a.testBit (i+q)=true then x ||| b else x)
 | y::l,i,0,x,h=>by simp at h;subst h;rw[lnk];simp
 | y::l,i,q+1,x,h=>by
  rw[List.getElem?_cons_succ] at h
  rw[lnk,List.getElem?_cons_succ,za5 a b l (i+1) q x h,show i+1+q=i+(q+1) by omega]
theorem zo3 {L fo:List Nat} {q v x:Nat} (hL:L[q]? =some v) (hx:fo[q]? =some x):(L.take q++fo.drop q).set q v=L.take (q+1)++fo.drop (q+1):=by
 have hq:=(zA1.1 hL).1
 have hl:(L.take q).length=q:=by rw[zAm];omega
 rw[drop_cons hx,zag hL,zAl,List.set_append_right _ _ (by omega),hl,Nat.sub_self]
 rfl
theorem zn1 {P:Program} {f:FuncId} {R:z3x} {k:List Item} {all:Array Oper} {l:List Oper} {n:Nat} {tm:List (Nat × PV)} {hp:Hp} {up:Hf} {ty:TypeId} {pos:String} {aft:Array Edge} {gd:Option (Nat × Bool)} {t e:TypeId} {ti:TI} {x y:Operand} {md ms kk i off:Nat} {p:PV} {ys ys':List (List D)} {z:List D} {ps:List PV} {ds:List D} [ht:z15 P t ti] (hev:St.evs ⟨n,tm,hp,up⟩ [x,y]=some [.rptr (md+1,ms) kk i off,p]) (hb:up md ms=some (.row e kk ys)) (hp':cellsOf p=some ps) (hds:z71 ps=some ds)
 (hz:ys[i]? =some z) (hs:ds.length=ti.size) (hf:decide (off+ds.length≤kk)=true) (hys:ys.set i (z11 z off ds)=ys') (h:Ops P f R all l k ⟨n,tm,hp,upd up (md,ms) (.row e kk ys')⟩):Op1 P f R all ⟨none,.store t x y,ty,pos,aft,gd⟩ l k ⟨n,tm,hp,up⟩ :=
 zih (m:=(md+1,ms)) hev hb hp' hds hz hs hf hys rfl h
theorem zm9 {X Y Z:Nat} (hXZ:X≠Z) (fo:List Nat) (a b:Nat) (ha:a<2 ^ 64) (hb:b<2 ^ 64) (hfo:fo.length≤64) (hfx:∀ x∈fo,x<2 ^ 64) (e0:Nat) :
 z1r Tryz.prog 200 [.ptr (e0,X) 0,I .u64 (a:Nat),I .u64 (b:Nat)] [((e0,X),bbx Y Z),((e0,Z),.row 182 1 (fo.map n64))] [((e0,Z),.row 182 1 ((lnk a b 0 fo).map n64))] (.tup []):=by
 refine z2h fun H hH=>?_
 have hX:H e0 X=some (bbx Y Z):=hH ((e0,X),bbx Y Z) (by simp)
 have hZ:H e0 Z=some (.row 182 1 (fo.map n64)):=hH ((e0,Z),.row 182 1 (fo.map n64)) (by simp)
 have hZ':H (0+e0) Z=some (.row 182 1 (fo.map n64)):=by rw[Nat.zero_add];exact hZ
 have hll:(lnk a b 0 fo).length=fo.length:=zak a b fo 0
 refine z0g Tryz.func200 (by kernel_rfl) rfl (by simp) ?_
 dsimp only[Tryz.f200]
 repeat' (first|(apply z04;(first|refine z0l ?_| (apply z0a;(refine z6z rfl hX rfl rfl rfl rfl (by decide) ?_))|(apply z0d;(refine z02 z1a rfl rfl ?_))|(apply z0x;(refine z02 (z3m rfl) rfl (bkN hZ') ?_))))|(apply z05;(first|refine z0k ?_|apply z09))|(apply z06;(first|apply z07|apply z00|apply z01)))
 all_goals try (exfalso;omega)
 refine z0t ?_
 refine zvj (m:=(0+e0,Z)) hZ' ?_
 refine z0e (z1v (fun q:Nat=>⟨31,[(0,.ptr (e0+1,X) 0),(1,I .u64 (a:Nat)),(2,I .u64 (b:Nat)),(11,I .i64 fo.length),(12,I .i64 (q:Nat))],[],upd H (0+e0,Z) (.row 182 1 (((lnk a b 0 fo).take q++fo.drop q).map n64))⟩) (fun q=>q≤fo.length) (fun q=>fo.length-q) ?_ 0 (zAf _)) rfl rfl
 intro q i1 ih
 by_cases hlt:q<fo.length
 · obtain⟨x,hx⟩:∃ x,fo[q]? =some x:=⟨_,zA0 hlt⟩
   have hxl:=hfx x (zA2 hx)
   obtain⟨W,hW⟩:∃ W,(lnk a b 0 fo).take q++fo.drop q=W:=⟨_,rfl⟩
   have hWq:W[q]? =some x:=by rw[← hW,zAg (by rw[zAm];omega),zAm,hll,Nat.min_eq_left i1,Nat.sub_self,List.getElem?_drop];exact hx
   have hXW:upd H (0+e0,Z) (.row 182 1 (W.map n64)) e0 X=some (bbx Y Z):=z0s hX (by simp[hXZ])
   have hZW:upd H (0+e0,Z) (.row 182 1 (W.map n64)) (0+e0) Z=some (.row 182 1 (W.map n64)):=z4n _ _ _
   have hWl:W.length=fo.length:=by rw[← hW,zAa,zAm,List.length_drop,hll];omega
   rw[hW]
   have hbt:=zty (S:=a) (i:=q) ha (by omega)
   have hor:=zrn hxl hb
   have hLg:=za5 a b fo 0 q x hx
   rw[Nat.zero_add] at hLg
   have hst:=zo3 hLg hx
   rw[hW] at hst
   have ih':=ih (q+1) (by omega) (by omega)
   rw[← hst] at ih'
   have hys:(W.map n64).set ((q:Nat):Int).toNat [zub (orV .u64 (x:Nat) (b:Nat))]=(W.set q (x ||| b)).map n64:=by rw[hor,zA9,List.map_set]
   have hidx:(W.map n64)[((q:Nat):Int).toNat]? =some (n64 x):=zte hWq
   by_cases ht:a.testBit q=true
   · rw[zAy ht] at hbt ih'
     repeat' (first|(apply z04;(first|refine z0l ?_| (apply z0a;(first|refine z02 (zn0 hidx rfl rfl rfl) rfl (bkN hZW) ?_| refine z6z rfl hXW rfl rfl rfl rfl (by decide) ?_))|(apply z0d;(refine z02 z1a rfl rfl ?_))|(apply z0n;(refine z02 (z25 rfl (by omega) (by rw[zA4];omega) rfl) rfl (bkN hZW) ?_))|(apply z0z;(first|refine z02 (zhj (by omega)) rfl rfl ?_| refine z02 z9m rfl rfl ?_| refine z02 zck rfl rfl ?_| refine z02 (z14 z1p) rfl rfl ?_))|(apply z0f;(refine zn1 (md:=0+e0) (ms:=Z) rfl hZW rfl rfl hidx rfl rfl hys ?_))))|(apply z05;(first|refine z0k ?_|apply z09))|(apply z06;(first|apply z07|apply z00|apply z08|apply z01|apply z03|refine z0h (fun _=>?_) (fun _=>?_)| refine z0o ?_)))
     all_goals try (exfalso;omega)
     all_goals (rw[z50];exact z0e ih' rfl rfl)
   · rw[zAx ht] at hbt ih'
     have hid:W.set q x=W:=by
      obtain⟨g1,g2⟩:=zA1.1 hWq
      rw[← g2];exact List.set_getElem_self g1
     rw[hid] at ih'
     repeat' (first|(apply z04;(first|refine z0l ?_| (apply z0d;(refine z02 z1a rfl rfl ?_))|(apply z0z;(first|refine z02 (zhj (by omega)) rfl rfl ?_| refine z02 z9m rfl rfl ?_| refine z02 (z14 z1p) rfl rfl ?_))))|(apply z05;(first|refine z0k ?_|apply z09))|(apply z06;(first|apply z07|apply z00|apply z08|apply z01|apply z03|refine z0h (fun _=>?_) (fun _=>?_)| refine z0o ?_)))
     all_goals exact zD30
 · obtain rfl:q=fo.length:=by omega
   rw[zAr,List.append_nil,← hll,List.take_length]
   repeat' (first|(apply z04;(refine z0l ?_))|(apply z05;(first|refine z0k ?_|apply z09))|(apply z06;(first|apply z07|apply z00|apply z08|apply z01|refine z0h (fun _=>?_) (fun _=>?_)| refine z0o ?_)))
   all_goals try (exfalso;omega)
   all_goals exact zfm Tryz.func200 _ (z5m rfl) ⟨rfl,by rw[Nat.zero_add];rfl⟩
theorem zis {P:Program} {f:FuncId} {R:z3x} {k:List Item} {all:Array Oper} {l:List Oper} {n:Nat} {tm:List (Nat × PV)} {hp:Hp} {up:Hf} {d:Nat} {ty:TypeId} {pos:String} {aft:Array Edge} {gd:Option (Nat × Bool)} {p:PV} {g:FuncId} {args:List Operand} {ps:List PV} {ats:Array TypeId} {md m1 m2:Nat} {b1 b2 b':Blk}
 (hsp:z1r P g ps [((md+1,m1),b1),((md+1,m2),b2)] [((md+1,m2),b')] p) (hev:St.evs ⟨n,tm,hp,up⟩ args=some ps) (h1:up md m1=some b1) (h2:up md m2=some b2) (hd:d<n)
 (h:Ops P f R all l k ⟨n,(d,p)::tm,hp,upd up (md,m2) b'⟩):Op1 P f R all ⟨some d,.call ⟨.value (.func g),args.toArray,ats⟩,ty,pos,aft,gd⟩ l k ⟨n,tm,hp,up⟩ :=
 zh9 hsp hev (z29 (m:=(md+1,m1)) h1 (z29 (m:=(md+1,m2)) h2 zfy)) hd rfl h
abbrev ptc (p:Pt):List D:=[zub (p.f:Nat),zub (p.l:Nat),zhk p.nu]
theorem zf6 {X Y Z:Nat} (hXZ:X≠Z) (fo:List Nat) (a b:Pt) (ha1:a.f<2 ^ 64) (ha2:a.l<2 ^ 64) (hb1:b.f<2 ^ 64) (hb2:b.l<2 ^ 64) (hfo:fo.length≤64) (hfx:∀ x∈fo,x<2 ^ 64) (lv:List (List Rg)) (e0:Nat) :
 z1r Tryz.prog 188 [.ptr (e0,X) 0,.d (.agg (ptc a)),.d (.agg (ptc b))] [((e0,X),bbx Y Z),((e0,Z),.row 182 1 (fo.map n64))] [((e0,Z),.row 182 1 ((lnk a.l b.f 0 fo).map n64))] (.d (.agg (ptc (z8g a b ⟨lv,fo⟩).2))):=by
 refine z2h fun H hH=>?_
 have hX:H e0 X=some (bbx Y Z):=hH ((e0,X),bbx Y Z) (by simp)
 have hZ:H e0 Z=some (.row 182 1 (fo.map n64)):=hH ((e0,Z),.row 182 1 (fo.map n64)) (by simp)
 have hl:=zm9 (X:=X) (Y:=Y) (Z:=Z) hXZ fo a.l b.f ha2 hb1 hfo hfx (e0+1)
 have ho1:=zrn ha1 hb1
 have ho2:=zrn hb2 ha2
 obtain⟨af,al,an⟩:=a
 obtain⟨bf,bl,bn⟩:=b
 refine z0g Tryz.func188 (by kernel_rfl) rfl (by simp) ?_
 dsimp only[Tryz.f188,z8g]
 simp only at hl ho1 ho2
 cases an <;> cases bn <;> skip
 all_goals (try simp only[if_true,if_false,Bool.false_eq_true])
 all_goals (try rw[← ho1]) 
 all_goals (try rw[← ho2])
 · repeat' (first|(apply z04;(first|refine z0l ?_| (apply z0a;(first|refine z02 z18 rfl rfl ?_| refine z02 z2a rfl rfl ?_))|(apply z0d;(refine z02 z1a rfl rfl ?_))|(apply z0j;(refine zis hl rfl hX hZ (by decide) ?_))|(apply z0f;(refine z2d ?_))|(apply z0i;(refine z0b z1e ?_))|(apply z1c;(refine z0b z1q ?_))|(apply z1i;(refine z2x ?_))))|(apply z05;(first|refine z0k ?_|apply z09|refine z1m ?_))|(apply z06;(first|apply z07|apply z00|refine z1f ?_| apply z08)))
   all_goals exact zD11
 · repeat' (first|(apply z04;(first|refine z0l ?_| (apply z0a;(first|refine z02 z18 rfl rfl ?_| refine z02 z2a rfl rfl ?_))|(apply z0d;(refine z02 z1a rfl rfl ?_))|(apply z0z;(refine z02 zck rfl rfl ?_))|(apply z0j;(refine zis hl rfl hX hZ (by decide) ?_))|(apply z0f;(refine z2d ?_))|(apply z0i;(refine z0b z1e ?_))|(apply z1c;(refine z0b z1q ?_))|(apply z1i;(refine z2x ?_))))|(apply z05;(first|refine z0k ?_|apply z09|refine z1m ?_))|(apply z06;(first|apply z07|apply z00|refine z1b rfl ?_|refine z1f ?_| apply z08)))
   all_goals exact zD11
 · repeat' (first|(apply z04;(first|refine z0l ?_| (apply z0a;(first|refine z02 z18 rfl rfl ?_| refine z02 z2a rfl rfl ?_))|(apply z0d;(refine z02 z1a rfl rfl ?_))|(apply z0z;(refine z02 zck rfl rfl ?_))|(apply z0j;(refine zis hl rfl hX hZ (by decide) ?_))|(apply z0f;(refine z2d ?_))|(apply z0i;(refine z0b z1e ?_))|(apply z1c;(refine z0b z1q ?_))|(apply z1i;(refine z2x ?_))))|(apply z05;(first|refine z0k ?_|apply z09))|(apply z06;(first|apply z07|apply z00|refine z1b rfl ?_|refine z1f ?_| apply z08)))
   all_goals exact zD11
 · repeat' (first|(apply z04;(first|refine z0l ?_| (apply z0a;(first|refine z02 z18 rfl rfl ?_| refine z02 z2a rfl rfl ?_))|(apply z0d;(refine z02 z1a rfl rfl ?_))|(apply z0z;(refine z02 zck rfl rfl ?_))|(apply z0j;(refine zis hl rfl hX hZ (by decide) ?_))|(apply z0f;(refine z2d ?_))|(apply z0i;(refine z0b z1e ?_))|(apply z1c;(refine z0b z1q ?_))|(apply z1i;(refine z2x ?_))))|(apply z05;(first|refine z0k ?_|apply z09))|(apply z06;(first|apply z07|apply z00|refine z1b rfl ?_)))
   all_goals exact zD11
attribute [local irreducible] zhx
abbrev lv1 (r:List Rg):List D:=[rgs r]
abbrev lvr (lv:List (List Rg)):Blk:=.row 110 1 (lv.map lv1)
abbrev fwr (fo:List Nat):Blk:=.row 182 1 (fo.map n64)
abbrev bks (t:Tb):List (Nm × Blk):=[((0,600),bbx 601 602),((0,601),lvr t.lv),((0,602),fwr t.fo)]
abbrev hks (t:Tb):List (Nm × Blk):=[((0,600),.gone),((0,601),.gone),((0,602),.gone),((0,603),lvr t.lv),((0,604),fwr t.fo),((0,600),bbx 603 604)]
abbrev zgk (g:FuncId) (args:List PV) (t:Tb) (r:Tb × Pt):Prop:=zhx Tryz.prog g (.ptr (0,600) 0::args) (bks t) (hks r.1) (.d (.agg (ptc r.2))) 603 604
abbrev KB (e:Rx):Prop:=∀ t:Tb,Sm t→(t.lv.length:Int)+pn e≤64→zgk 172 [.d (Drx e)] t (bd e t)
theorem z4r (op mn mx:Int) (rs:List Rg) (ks:List Rx):Drx (.mk op mn mx rs ks)=.agg (rx5 op mn mx rs ks):=congrArg D.agg (z4o op mn mx rs ks)
theorem zde (e:Rx) (hv:vns e=true) (hk:KB e):∀ (n:Nat) (t:Tb),Sm t→n≤16→(t.lv.length:Int)+n*pn e≤64→zgk 201 [.d (Drx e),I .i64 (n:Nat)] t (opt (bd e) n t)
 | 0,t,hs,hn,hl=>by
  obtain⟨op,mn,mx,rs,ks⟩:=e
  rw[z4r]
  refine z92 fun H hH hG1 hG2 hQ1 hQ2=>?_
  have hH0:=hH ((0,600),bbx 601 602) (by simp)
  have hH1:=hH ((0,601),lvr t.lv) (by simp)
  have hH2:=hH ((0,602),fwr t.fo) (by simp)
  refine z57 Tryz.func201 (by kernel_rfl) rfl (by simp) ?_
  dsimp only[Tryz.f201]
  refine z4g 600 0 600 hH0 rfl rfl ?_
  refine z4c 601 0 601 (z0s hH1 (by simp)) rfl rfl ?_
  refine z4c 602 0 602 (z0s (z0s hH2 (by simp)) (by simp)) rfl rfl ?_
  refine z4e 100601 rfl ?_
  refine z4e 100602 rfl ?_
  repeat' (first|(apply z04;(first|refine z0l ?_| (apply z0f;(refine z2d ?_))|(apply z0i;(refine z0b z1e ?_))|(apply z1c;(refine z0b z1q ?_))|(apply z1i;(refine z2x ?_))))|(apply z05;(first|refine z0k ?_|apply z09))|(apply z06;(first|apply z07|apply z00|refine z1b rfl ?_)))
  all_goals try (exfalso;omega)
  all_goals refine z3e 601 603 rfl (z0s (z0s (z0s hG1 (by simp)) (by simp)) (by simp)) (Or.inl rfl) rfl (Quiet.upd (Quiet.upd (Quiet.upd hQ1 rfl) rfl) rfl) ?_
  all_goals refine z3e 602 604 rfl (z0s (z0s (z0s (z0s hG2 (by simp)) (by simp)) (by simp)) (by simp)) (Or.inr rfl) rfl (Quiet.upd (Quiet.upd (Quiet.upd (Quiet.upd hQ2 rfl) rfl) rfl) rfl) ?_
  all_goals refine z39 600 0 600 (raw:=bbx 603 604) rfl rfl rfl rfl rfl ?_
  refine z0c Tryz.func201 _ (z1s rfl rfl rfl rfl rfl rfl) ⟨rfl,rfl⟩
 | n+1,t,hs,hn,hl=>by
  have hko:=zuc hv
  have h0:=zco.1 e hv
  have hnP:0≤(n:Int)*pn e:=Int.mul_nonneg (by omega) h0
  have ee:((n+1:Nat):Int)*pn e=n*pn e+pn e:=by rw[show ((n+1:Nat):Int)=(n:Int)+1 by omega,Int.add_mul,Int.one_mul]
  rw[ee] at hl
  have hbl:=hko.bl t hs.len
  have hfw:=hko.few t hs.len
  obtain⟨s1,pf,pl⟩:=hbl.sm hs (by omega)
  have hos:=zb4 hko h0 n (bd e t).1 s1.len
  obtain⟨s2,qf,ql⟩:=hos.1.sm s1 (by omega)
  have hk1:=hk t hs (by omega)
  have ho:=zde e hv hk n (bd e t).1 s1 (by omega) (by omega)
  have hcc:=zf6 (X:=600) (Y:=603) (Z:=604) (by decide) (opt (bd e) n (bd e t).1).1.fo (bd e t).2 (opt (bd e) n (bd e t).1).2 pf pl qf ql (by rw[s2.len];omega) s2.sm (opt (bd e) n (bd e t).1).1.lv 0
  have hn1:((n+1:Nat):Int)-1=(n:Nat):=by omega
  have hnu:=zq0 (b:=bd e) n (bd e t).1
  rw[opt]
  generalize hE:opt (bd e) n (bd e t).1=r2 at *
  generalize hB:bd e t=r1 at *
  obtain⟨t2,p2⟩:=r2
  obtain⟨t1,p1⟩:=r1
  obtain⟨op,mn,mx,rs,ks⟩:=e
  rw[z4r] at hk1 ho ⊢
  dsimp only[zgk,hks] at hk1 ho
  rw[← hn1] at ho
  have e1:(t.lv.map lv1).length=t.lv.length:=zA4 _
  have e2:(t1.lv.map lv1).length=t1.lv.length:=zA4 _
  refine z92 fun H hH hG1 hG2 hQ1 hQ2=>?_
  have hH0:=hH ((0,600),bbx 601 602) (by simp)
  have hH1:=hH ((0,601),lvr t.lv) (by simp)
  have hH2:=hH ((0,602),fwr t.fo) (by simp)
  refine z57 Tryz.func201 (by kernel_rfl) rfl (by simp) ?_
  dsimp only[Tryz.f201]
  refine z4g 600 0 600 hH0 rfl rfl ?_
  refine z4c 601 0 601 (z0s hH1 (by simp)) rfl rfl ?_
  refine z4c 602 0 602 (z0s (z0s hH2 (by simp)) (by simp)) rfl rfl ?_
  refine z4e 100601 rfl ?_
  refine z4e 100602 rfl ?_
  simp only[same,zA3] at *
  by_cases hsm:t1.lv.length=t.lv.length
  · rw[zAy hsm]
    repeat' (first|(apply z04;(first|refine z8i hk1 rfl rfl rfl (by decide) rfl rfl rfl (by decide) rfl rfl rfl rfl ?_|refine z0l ?_| (apply z0a;(first|refine z02 z2c rfl rfl ?_| refine z02 z18 rfl rfl ?_))|(apply z0d;(refine z02 z1a rfl rfl ?_))|(apply z0x;(refine z02 (zbl rfl) rfl rfl ?_))|(apply z0f;(refine z2d ?_))|(apply z0i;(refine z0b z1e ?_))|(apply z1c;(refine z0b z1q ?_))|(apply z1i;(refine z2x ?_))))|(apply z05;(first|refine z0k ?_|apply z09))|(apply z06;(first|apply z07|apply z00|refine z1f ?_| apply z08|apply z2z|refine z0h (fun _=>?_) (fun _=>?_)))|(apply z2v;(first|refine z3h ?_| (apply z0u;(refine z0w z2a rfl rfl ?_))|(apply z3y;(refine z0w (z2q z1p) rfl rfl ?_)))))
    all_goals try (exfalso;omega)
    all_goals refine z3e 601 603 rfl (z0s (z0s (z0s hG1 (by simp)) (by simp)) (by simp)) (Or.inl rfl) rfl (Quiet.upd (Quiet.upd (Quiet.upd hQ1 rfl) rfl) rfl) ?_
    all_goals refine z3e 602 604 rfl (z0s (z0s (z0s (z0s hG2 (by simp)) (by simp)) (by simp)) (by simp)) (Or.inr rfl) rfl (Quiet.upd (Quiet.upd (Quiet.upd (Quiet.upd hQ2 rfl) rfl) rfl) rfl) ?_
    all_goals refine z39 600 0 600 (raw:=bbx 603 604) rfl rfl rfl rfl rfl ?_
    all_goals refine z0c Tryz.func201 _ (z1s rfl rfl rfl rfl rfl rfl) ⟨rfl,rfl⟩
  · rw[zAx hsm]
    repeat' (first|(apply z04;(first|refine z8i hk1 rfl rfl rfl (by decide) rfl rfl rfl (by decide) rfl rfl rfl rfl ?_|refine z0l ?_| (apply z0a;(first|refine z02 z2c rfl rfl ?_| refine z02 z18 rfl rfl ?_| refine z02 z2a rfl rfl ?_))|(apply z0d;(refine z02 z1a rfl rfl ?_))|(apply z0x;(refine z02 (zbl rfl) rfl rfl ?_))|(apply z0f;(refine z2d ?_))|(apply z0i;(refine z0b z1e ?_))|(apply z1c;(refine z0b z1q ?_))|(apply z1i;(refine z2x ?_))))|(apply z05;(first|refine z0k ?_|apply z09))|(apply z06;(first|apply z07|apply z00|refine z1f ?_| apply z08|apply z2z|refine z0h (fun _=>?_) (fun _=>?_)))|(apply z2v;(first|(apply z1l;refine z2n mix ?_)|refine zs3 ho (by first|exact rfl|exact⟨_,rfl,rfl,rfl⟩) rfl rfl rfl (by decide) rfl rfl rfl (by decide) ?_|refine z3h ?_| (apply z0u;(refine z0w z2a rfl rfl ?_))|(apply z3y;(refine z0w (z2q z1p) rfl rfl ?_))|(apply z22;(refine zhe hcc (by first|exact rfl|exact⟨_,rfl,rfl,rfl⟩) rfl rfl rfl (by decide) ?_))|(apply z2k;(refine z5o (by first|exact rfl|exact⟨_,rfl,rfl,rfl⟩) rfl rfl rfl rfl rfl rfl ?_))|(apply zie;(refine zkz (by first|exact rfl|exact⟨_,rfl,rfl,rfl⟩) rfl rfl (by decide) ?_)))))
    all_goals try (exfalso;omega)
    all_goals refine z3e 603 603 rfl (z0s (z0s (z0s hG1 (by simp)) (by simp)) (by simp)) (Or.inl rfl) rfl (Quiet.upd (Quiet.upd (Quiet.upd hQ1 rfl) rfl) rfl) ?_
    all_goals refine z3e 604 604 rfl (z0s (z0s (z0s (z0s hG2 (by simp)) (by simp)) (by simp)) (by simp)) (Or.inr rfl) rfl (Quiet.upd (Quiet.upd (Quiet.upd (Quiet.upd hQ2 rfl) rfl) rfl) rfl) ?_
    all_goals refine z39 600 0 600 (raw:=bbx 603 604) rfl rfl rfl rfl rfl ?_
    refine z0c Tryz.func201 _ (z1s rfl rfl rfl rfl rfl rfl) ⟨rfl,rfl⟩
abbrev U3 (H:Hf):Hf:=upd (upd (upd H (0,600) .gone) (0,601) .gone) (0,602) .gone
abbrev ptb (p:Pt):Blk:=.box [.d (zub (p.f:Nat)),.d (zub (p.l:Nat)),.d (zhk p.nu)]
abbrev zz2 (op mn mx:Int) (rs:List Rg) (c:List D):List D:=[z3c op,z3c mn,z3c mx,rgs rs,.slice [c]]
theorem zsm (op mn mx:Int) (rs:List Rg) (ok mk xk:Int) (rk:List Rg) (kk:List Rx):rx5 op mn mx rs [.mk ok mk xk rk kk]=zz2 op mn mx rs (rx5 ok mk xk rk kk):=by
 show [z3c op,z3c mn,z3c mx,rgs rs,.slice [rxc (.mk ok mk xk rk kk)]]=_
 rw[z4o]
theorem zun (op mn mx:Int) (rs:List Rg) (k:Rx) (hvk:vns k=true) (hk:KB k) (h0:0≤mn) (h16:mn≤16) (hm:mx=-1∨(mn≤mx∧mx≤16)) (t:Tb) (hs:Sm t) (hl:(t.lv.length:Int)+rep mn mx (pn k)≤64) :
 zgk 189 [.d (Drx (.mk op mn mx rs [k]))] t (rp (bd k) mn mx t):=by
 have hko:=zuc hvk
 have hP:=zco.1 k hvk
 have hrep:mn*pn k≤rep mn mx (pn k):=by
  rw[rep]
  split
  · rw[Int.mul_comm];exact Int.mul_le_mul_of_nonneg_left (by omega) hP
  · rw[Int.mul_comm];exact Int.mul_le_mul_of_nonneg_left (by omega) hP
 obtain⟨r,hr⟩:∃ r,rpl (bd k) (decide (mx<0)) mn.toNat t ptE=r:=⟨_,rfl⟩
 obtain⟨F,hF⟩:∃ F,rp (bd k) mn mx t=F:=⟨_,rfl⟩
 have hF':=hF
 rw[rp] at hF'
 simp only[hr] at hF'
 rw[hF]
 obtain⟨ok,mk,xk,rk,kk⟩:=k
 rw[z4r,zsm]
 refine z92 fun H hH hG1 hG2 hQ1 hQ2=>?_
 have hH0:=hH ((0,600),bbx 601 602) (by simp)
 have hH1:=hH ((0,601),lvr t.lv) (by simp)
 have hH2:=hH ((0,602),fwr t.fo) (by simp)
 refine z57 Tryz.func189 (by kernel_rfl) rfl (by simp) ?_
 dsimp only[Tryz.f189]
 refine z4g 600 0 600 hH0 rfl rfl ?_
 refine z4c 601 0 601 (z0s hH1 (by simp)) rfl rfl ?_
 refine z4c 602 0 602 (z0s (z0s hH2 (by simp)) (by simp)) rfl rfl ?_
 refine z4e 100601 rfl ?_
 refine z4e 100602 rfl ?_
 repeat' (first|(apply z04;(first|refine z0l ?_| (apply z0a;(refine z02 z18 rfl rfl ?_))|(apply z0d;(refine z02 z1a rfl rfl ?_))|(apply z0f;(refine z2d ?_))|(apply z0i;(refine z0b z1e ?_))|(apply z1c;(refine z0b z1q ?_))|(apply z1i;(refine z2x ?_))))|(apply z05;(first|refine z0k ?_|apply z09))|(apply z06;(first|apply z07|apply z00|apply z01)))
 refine z0t ?_
 refine z0e (z1v (fun q:Nat × Tb × Pt=>⟨98,[(0,.ptr (0,600) 0),(3,.ptr (0,3) 0),(4,.ptr (0,4) 0),(5,.ptr (0,5) 0),(11,I .i64 mn),(12,I .i64 (q.1:Nat)),(100600,.al (0,600) (1,600))],[(3,.box ((zz2 op mn mx rs (rx5 ok mk xk rk kk)).map .d)),(4,ptb ptN),(5,ptb q.2.2),(600,bbx 601 602),(601,lvr q.2.1.lv),(602,fwr q.2.1.fo)],U3 H⟩)
  (fun q=>q.1≤mn.toNat∧rpl (bd (.mk ok mk xk rk kk)) (decide (mx<0)) (mn.toNat-q.1) q.2.1 q.2.2=r∧(∃ Z,Bl O1 Z t q.2.1 q.2.2)∧(q.2.1.lv.length:Int)+((mn.toNat-q.1:Nat):Int)*pn (.mk ok mk xk rk kk)≤t.lv.length+mn*pn (.mk ok mk xk rk kk)) (fun q=>mn.toNat-q.1) ?_ (0,t,ptE) ⟨zAf _,hr,⟨_,Bl.eps (Ex.refl hs.len)⟩,by simp only[Nat.sub_zero];rw[show ((mn.toNat:Nat):Int)=mn by omega];exact Int.le_refl _⟩) rfl rfl
 rintro⟨i,t',p⟩ ⟨i1,i2,⟨Z,i3⟩,i4⟩ ih
 simp only at i1 i2 i3 i4 ih ⊢
 have hnn:0≤((mn.toNat-i:Nat):Int)*pn (.mk ok mk xk rk kk):=Int.mul_nonneg (by omega) hP
 obtain⟨s1,pf,pl⟩:=i3.sm hs (by omega)
 by_cases hlt:i<mn.toNat
 · obtain⟨n',hn⟩:∃ n',mn.toNat-i=n'+1:=⟨mn.toNat-i-1,by omega⟩
   have hn2:mn.toNat-(i+1)=n':=by omega
   have hbl:=hko.bl t' s1.len
   have hfw:=hko.few t' s1.len
   have hnn2:0≤(n':Int)*pn (.mk ok mk xk rk kk):=Int.mul_nonneg (by omega) hP
   rw[hn,show ((n'+1:Nat):Int)=(n':Int)+1 by omega,Int.add_mul,Int.one_mul] at i4
   obtain⟨s2,qf,ql⟩:=hbl.sm s1 (by omega)
   have hk1:=hk t' s1 (by omega)
   rw[hn,rpl] at i2
   generalize hB:bd (.mk ok mk xk rk kk) t'=r1 at *
   obtain⟨t1,q⟩:=r1
   have hfw2:(t1.lv.length:Int)≤t'.lv.length+pn (.mk ok mk xk rk kk):=hfw
   rw[z4r] at hk1
   dsimp only[zgk,hks] at hk1
   simp only[same,zA3] at i2
   have e1:(t'.lv.map lv1).length=t'.lv.length:=zA4 _
   have e2:(t1.lv.map lv1).length=t1.lv.length:=zA4 _
   by_cases hsm:t1.lv.length=t'.lv.length
   · rw[zAy hsm] at i2
     have hFF:F=(t1,ptE):=by
      rw[← hF',← i2];rfl
     rw[hFF]
     repeat' (first|(apply z04;(first|refine z8i hk1 rfl rfl rfl (by decide) rfl rfl rfl (by decide) rfl rfl rfl rfl ?_|refine z0l ?_| (apply z0a;(first|refine z02 z18 rfl rfl ?_| refine z02 z2j rfl rfl ?_| refine z02 z2a rfl rfl ?_))|(apply z0d;(refine z02 z1a rfl rfl ?_))|(apply z0n;(refine z02 (z23 (ys:=[rx5 ok mk xk rk kk]) rfl (by omega) rfl rfl) rfl rfl ?_))|(apply z0z;(refine z02 (z2q z1p) rfl rfl ?_))|(apply z0x;(refine z02 (zbl rfl) rfl rfl ?_))|(apply z0f;(refine z2d ?_))|(apply z0i;(refine z0b z1e ?_))|(apply z1i;(refine z2x ?_))))|(apply z05;(first|refine z0k ?_|apply z09|refine z1m ?_| refine z1t (fun _=>?_) (fun _=>?_)))|(apply z06;(first|apply z07|apply z00|refine z1f ?_| apply z08|apply z01|apply z2z|apply z03|refine z0h (fun _=>?_) (fun _=>?_)| refine z0o ?_))|(apply z2v;(first|refine z3h ?_| (apply z0u;(first|refine z0w z18 rfl rfl ?_| refine z0w z2j rfl rfl ?_| refine z0w z2a rfl rfl ?_))|(apply z0q;(refine z0w z1a rfl rfl ?_))|(apply z1n;(refine z0w (z23 (ys:=[rx5 ok mk xk rk kk]) rfl (by omega) rfl rfl) rfl rfl ?_))|(apply z3y;(refine z0w (z2q z1p) rfl rfl ?_)))))
     all_goals exact zD3
   · rw[zAx hsm] at i2
     by_cases hpl:mx<0∧n'=0
     · rw[zAy (by simp[hpl.1,hpl.2])] at i2
       have hbp:=hbl.plus
       obtain⟨s3,_,_⟩:=hbp.sm s1 (by show t1.lv.length≤64;omega)
       have hlk:=zm9 (X:=600) (Y:=601) (Z:=602) (by decide) t1.fo q.l q.f ql qf (by rw[s2.len];omega) s2.sm 0
       have hcc:=zf6 (X:=600) (Y:=601) (Z:=602) (by decide) (lnk q.l q.f 0 t1.fo) p q pf pl qf ql (by have:=s3.len;show (link t1 q.l q.f).fo.length≤64;rw[this];show t1.lv.length≤64;omega) s3.sm t1.lv 0
       have ih':=ih (i+1,(z8g p q (link t1 q.l q.f)).1,(z8g p q (link t1 q.l q.f)).2) ⟨by simp only;omega,by simp only;rw[hn2];exact i2,⟨_,i3.cat hbp⟩,by simp only;rw[hn2];show (t1.lv.length:Int)+_≤_;omega⟩ (by simp only;omega)
       repeat' (first|(apply z04;(first|refine z8i hk1 rfl rfl rfl (by decide) rfl rfl rfl (by decide) rfl rfl rfl rfl ?_|refine z0l ?_| (apply z0a;(first|refine z02 z18 rfl rfl ?_| refine z02 z2j rfl rfl ?_| refine z02 z2a rfl rfl ?_))|(apply z0d;(refine z02 z1a rfl rfl ?_))|(apply z0n;(refine z02 (z23 (ys:=[rx5 ok mk xk rk kk]) rfl (by omega) rfl rfl) rfl rfl ?_))|(apply z0z;(first|refine z02 (z14 z1p) rfl rfl ?_| refine z02 (z2q z1p) rfl rfl ?_))|(apply z0x;(refine z02 (zbl rfl) rfl rfl ?_))|(apply z0j;(first|refine zer hlk rfl rfl rfl (by decide) ?_|refine zer hcc rfl rfl rfl (by decide) ?_))|(apply z0f;(refine z2d ?_))|(apply z0i;(refine z0b z1e ?_))|(apply z1i;(refine z2x ?_))))|(apply z05;(first|refine z0k ?_|apply z09|refine z1m ?_| refine z1t (fun _=>?_) (fun _=>?_)))|(apply z06;(first|apply z07|apply z00|refine z1f ?_| apply z08|apply z01|apply z2z|apply z03|refine z0h (fun _=>?_) (fun _=>?_)| refine z0o ?_))|(apply z2v;(first|refine z3h ?_| (apply z0u;(first|refine z0w z18 rfl rfl ?_| refine z0w z2j rfl rfl ?_| refine z0w z2a rfl rfl ?_))|(apply z0q;(refine z0w z1a rfl rfl ?_))|(apply z1n;(refine z0w (z23 (ys:=[rx5 ok mk xk rk kk]) rfl (by omega) rfl rfl) rfl rfl ?_))|(apply z3y;(refine z0w (z2q z1p) rfl rfl ?_)))))
       all_goals exact zD30
     · rw[zAx (by simpa using hpl)] at i2
       have hcc:=zf6 (X:=600) (Y:=601) (Z:=602) (by decide) t1.fo p q pf pl qf ql (by rw[s2.len];omega) s2.sm t1.lv 0
       have ih':=ih (i+1,(z8g p q t1).1,(z8g p q t1).2) ⟨by simp only;omega,by simp only;rw[hn2];exact i2,⟨_,i3.cat hbl⟩,by simp only;rw[hn2];show (t1.lv.length:Int)+_≤_;omega⟩ (by simp only;omega)
       repeat' (first|(apply z04;(first|refine z8i hk1 rfl rfl rfl (by decide) rfl rfl rfl (by decide) rfl rfl rfl rfl ?_|refine z0l ?_| (apply z0a;(first|refine z02 z18 rfl rfl ?_| refine z02 z2j rfl rfl ?_| refine z02 z2a rfl rfl ?_))|(apply z0d;(refine z02 z1a rfl rfl ?_))|(apply z0n;(refine z02 (z23 (ys:=[rx5 ok mk xk rk kk]) rfl (by omega) rfl rfl) rfl rfl ?_))|(apply z0z;(first|refine z02 (z14 z1p) rfl rfl ?_| refine z02 (z2q z1p) rfl rfl ?_))|(apply z0x;(refine z02 (zbl rfl) rfl rfl ?_))|(apply z0j;(refine zer hcc rfl rfl rfl (by decide) ?_))|(apply z0f;(refine z2d ?_))|(apply z0i;(refine z0b z1e ?_))|(apply z1i;(refine z2x ?_))))|(apply z05;(first|refine z0k ?_|apply z09|refine z1m ?_| refine z1t (fun _=>?_) (fun _=>?_)))|(apply z06;(first|apply z07|apply z00|refine z1f ?_| apply z08|apply z01|apply z2z|apply z03|refine z0h (fun _=>?_) (fun _=>?_)| refine z0o ?_))|(apply z2v;(first|refine z3h ?_| (apply z0u;(first|refine z0w z18 rfl rfl ?_| refine z0w z2j rfl rfl ?_| refine z0w z2a rfl rfl ?_))|(apply z0q;(refine z0w z1a rfl rfl ?_))|(apply z1n;(refine z0w (z23 (ys:=[rx5 ok mk xk rk kk]) rfl (by omega) rfl rfl) rfl rfl ?_))|(apply z3y;(refine z0w (z2q z1p) rfl rfl ?_)))))
       all_goals exact zD30
 · obtain rfl:i=mn.toNat:=by omega
   rw[Nat.sub_self,rpl] at i2
   rw[← i2] at hF'
   simp only[Bool.false_eq_true,if_false] at hF'
   rw[Nat.sub_self] at i4
   have i4':(t'.lv.length:Int)≤t.lv.length+mn*pn (.mk ok mk xk rk kk):=by simpa using i4
   by_cases hA:mx<0∧mn=0
   · rw[zAy hA] at hF'
     have hre:rep mn mx (pn (.mk ok mk xk rk kk))=pn (.mk ok mk xk rk kk):=by
      rw[rep,zAy (by omega),hA.2,show max (0:Int) 1=1 by decide,Int.mul_one]
     rw[hre] at hl
     rw[hA.2,Int.zero_mul] at i4'
     have hbl:=hko.bl t' s1.len
     have hfw:=hko.few t' s1.len
     obtain⟨s2,qf,ql⟩:=hbl.sm s1 (by omega)
     have hk1:=hk t' s1 (by omega)
     generalize hB:bd (.mk ok mk xk rk kk) t'=r1 at *
     obtain⟨t1,q⟩:=r1
     have hfw2:(t1.lv.length:Int)≤t'.lv.length+pn (.mk ok mk xk rk kk):=hfw
     rw[z4r] at hk1
     dsimp only[zgk,hks] at hk1
     have hlk:=zm9 (X:=600) (Y:=601) (Z:=602) (by decide) t1.fo q.l q.f ql qf (by rw[s2.len];omega) s2.sm 0
     rw[← hF']
     repeat' (first|(apply z04;(first|refine z8i hk1 rfl rfl rfl (by decide) rfl rfl rfl (by decide) rfl rfl rfl rfl ?_|refine z0l ?_| (apply z0a;(first|refine z02 z18 rfl rfl ?_| refine z02 z2j rfl rfl ?_| refine z02 z2a rfl rfl ?_))|(apply z0d;(refine z02 z1a rfl rfl ?_))|(apply z0n;(refine z02 (z23 (ys:=[rx5 ok mk xk rk kk]) rfl (by omega) rfl rfl) rfl rfl ?_))|(apply z0z;(refine z02 (z2q z1p) rfl rfl ?_))|(apply z0x;(refine z02 (z3m rfl) rfl rfl ?_))|(apply z0j;(refine zer hlk rfl rfl rfl (by decide) ?_))|(apply z0f;(refine z2d ?_))|(apply z0i;(refine z0b z1e ?_))|(apply z1i;(refine z2x ?_))))|(apply z05;(first|refine z0k ?_|apply z09|refine z1m ?_| refine z1t (fun _=>?_) (fun _=>?_)))|(apply z06;(first|apply z07|apply z00|refine z1f ?_| apply z08|apply z01|apply z2z|apply z03|refine z0h (fun _=>?_) (fun _=>?_)| refine z0o ?_))|(apply z2v;(first|refine z3h ?_| (apply z0u;(first|refine z0w z18 rfl rfl ?_| refine z0w z2j rfl rfl ?_| refine z0w z2a rfl rfl ?_))|(apply z0q;(refine z0w z1a rfl rfl ?_))|(apply z1n;(refine z0w (z23 (ys:=[rx5 ok mk xk rk kk]) rfl (by omega) rfl rfl) rfl rfl ?_))|(apply z3y;(refine z0w (z2q z1p) rfl rfl ?_)))))
     all_goals exact zD3
   · rw[zAx hA] at hF'
     by_cases hC:mn<mx
     · rw[zAy hC] at hF'
       have hre:rep mn mx (pn (.mk ok mk xk rk kk))=mn*pn (.mk ok mk xk rk kk)+((mx-mn).toNat:Int)*pn (.mk ok mk xk rk kk):=by
        rw[rep,zAx (by omega),← Int.add_mul,Int.mul_comm];congr 1;omega
       have ho:=zde (.mk ok mk xk rk kk) hvk hk (mx-mn).toNat t' s1 (by omega) (by omega)
       have hos:=zb4 hko hP (mx-mn).toNat t' s1.len
       obtain⟨s2,qf,ql⟩:=hos.1.sm s1 (by omega)
       generalize hB:opt (bd (.mk ok mk xk rk kk)) (mx-mn).toNat t'=r1 at *
       obtain⟨t1,q⟩:=r1
       have hfw2:(t1.lv.length:Int)≤t'.lv.length+((mx-mn).toNat:Int)*pn (.mk ok mk xk rk kk):=hos.2
       have hcc:=zf6 (X:=600) (Y:=603) (Z:=604) (by decide) t1.fo p q pf pl qf ql (by rw[s2.len];omega) s2.sm t1.lv 0
       rw[z4r,show (((mx-mn).toNat:Nat):Int)=mx-mn by omega] at ho
       dsimp only[zgk,hks] at ho
       rw[← hF']
       repeat' (first|(apply z04;(first|refine z0l ?_| (apply z0a;(first|refine z02 z18 rfl rfl ?_| refine z02 z2j rfl rfl ?_| refine z02 z2a rfl rfl ?_))|(apply z0d;(refine z02 z1a rfl rfl ?_))|(apply z0n;(refine z02 (z23 (ys:=[rx5 ok mk xk rk kk]) rfl (by omega) rfl rfl) rfl rfl ?_))|(apply z0x;(refine z02 (z3m rfl) rfl rfl ?_))|(apply z0f;(refine z2d ?_))))|(apply z05;(first|refine z0k ?_|apply z09|refine z1m ?_| refine z1t (fun _=>?_) (fun _=>?_)))|(apply z06;(first|apply z07|apply z00|refine z1f ?_| apply z08|apply z01|apply z2z|apply z03|refine z0h (fun _=>?_) (fun _=>?_)| refine z0o ?_))|(apply z2v;(first|(apply z1l;refine z2n mix ?_)|refine zs3 ho (by first|exact rfl|exact⟨_,rfl,rfl,rfl⟩) rfl rfl rfl (by decide) rfl rfl rfl (by decide) ?_|refine z3h ?_| (apply z0u;(first|refine z0w z18 rfl rfl ?_| refine z0w z2j rfl rfl ?_| refine z0w z2a rfl rfl ?_))|(apply z0q;(refine z0w z1a rfl rfl ?_))|(apply z1n;(refine z0w (z23 (ys:=[rx5 ok mk xk rk kk]) rfl (by omega) rfl rfl) rfl rfl ?_))|(apply z3y;(refine z0w (z2q z1p) rfl rfl ?_))|(apply z22;(refine zhe hcc (by first|exact rfl|exact⟨_,rfl,rfl,rfl⟩) rfl rfl rfl (by decide) ?_))|(apply z2k;(refine z5o (by first|exact rfl|exact⟨_,rfl,rfl,rfl⟩) rfl rfl rfl rfl rfl rfl ?_)))))
       all_goals try (exfalso;omega)
       all_goals refine z3e 603 603 rfl (z0s (z0s (z0s hG1 (by simp)) (by simp)) (by simp)) (Or.inl rfl) rfl (Quiet.upd (Quiet.upd (Quiet.upd hQ1 rfl) rfl) rfl) ?_
       all_goals refine z3e 604 604 rfl (z0s (z0s (z0s (z0s hG2 (by simp)) (by simp)) (by simp)) (by simp)) (Or.inr rfl) rfl (Quiet.upd (Quiet.upd (Quiet.upd (Quiet.upd hQ2 rfl) rfl) rfl) rfl) ?_
       all_goals refine z39 600 0 600 (raw:=bbx 603 604) rfl rfl rfl rfl rfl ?_
       all_goals refine z0c Tryz.func189 _ (z1s rfl rfl rfl rfl rfl rfl) ⟨rfl,rfl⟩
     · rw[zAx hC] at hF'
       rw[← hF']
       repeat' (first|(apply z04;(first|refine z0l ?_| (apply z0a;(first|refine z02 z18 rfl rfl ?_| refine z02 z2a rfl rfl ?_))|(apply z0d;(refine z02 z1a rfl rfl ?_))|(apply z0x;(refine z02 (z3m rfl) rfl rfl ?_))|(apply z0f;(refine z2d ?_))))|(apply z05;(first|refine z0k ?_|apply z09|refine z1m ?_| refine z1t (fun _=>?_) (fun _=>?_)))|(apply z06;(first|apply z07|apply z00|refine z1f ?_| apply z08|apply z01|apply z2z|apply z03|refine z0h (fun _=>?_) (fun _=>?_)| refine z0o ?_))|(apply z2v;(first|refine z3h ?_| (apply z0u;(first|refine z0w z18 rfl rfl ?_| refine z0w z2a rfl rfl ?_))|(apply z0q;(refine z0w z1a rfl rfl ?_)))))
       all_goals exact zD3
theorem zec:∀ {ks:List Rx},zdf ks=true→∀ i,0≤pnL (ks.drop i)
 | ks,h,0=>zco.2 ks h
 | [],h,i+1=>Int.le_refl _
 | k::ks,h,i+1=>by
  rw[zdf,zA7] at h
  exact zec h.2 i
theorem zog (mn mx:Int) (rs:List Rg) (ks:List Rx) (t:Tb) (hs:Sm t) (hl:(t.lv.length:Int)+1≤64):zgk 172 [.d (Drx (.mk 1 mn mx rs ks))] t (bd (.mk 1 mn mx rs ks) t):=by
 rw[bd,zAy rfl,z4r]
 have hsh:=zv3 (i:=t.lv.length) (by omega)
 have e1:(t.lv.map lv1).length=t.lv.length:=zA4 _
 have e2:=hs.len
 refine z92 fun H hH hG1 hG2 hQ1 hQ2=>?_
 have hH0:=hH ((0,600),bbx 601 602) (by simp)
 have hH1:=hH ((0,601),lvr t.lv) (by simp)
 have hH2:=hH ((0,602),fwr t.fo) (by simp)
 refine z57 Tryz.func172 (by kernel_rfl) rfl (by simp) ?_
 dsimp only[Tryz.f172]
 refine z4g 600 0 600 hH0 rfl rfl ?_
 refine z4c 601 0 601 (z0s hH1 (by simp)) rfl rfl ?_
 refine z4c 602 0 602 (z0s (z0s hH2 (by simp)) (by simp)) rfl rfl ?_
 refine z4e 100601 rfl ?_
 refine z4e 100602 rfl ?_
 repeat' (first | (apply z04; (first | refine z0l ?_| (apply z0a; (refine z02 z18 rfl rfl ?_)) | (apply z0d; (refine z02 z1a rfl rfl ?_)) | (apply z0z; (refine z02 (zr8 (by omega)) rfl rfl ?_)) | (apply z0x; (first | refine z97 (g := n64) 0 rfl ?_| refine z02 (zbl rfl) rfl rfl ?_)) | (apply z0f; (refine z2d ?_)) | (apply z0i; (refine z0b z1e ?_)) | (apply z1c; (refine z0b z1q ?_)) | (apply z1i; (refine z2x ?_)) | (apply z3t; (refine z3s rfl ?_)))) | (apply z05; (first | refine z0k ?_ | apply z09)) | (apply z06; (first | apply z07 | apply z00 | refine z1b rfl ?_ | apply z01 | apply z2z)) | (apply z2v; (first | refine z3h ?_| (apply z0u; (refine z0w z18 rfl rfl ?_)) | (apply z0q; (refine z0w z1a rfl rfl ?_)) | (apply z3n; (refine z9k (g := lv1) (by first | exact rfl | exact ⟨_, rfl, rfl, rfl⟩) rfl rfl rs rfl rfl rfl rfl rfl rfl rfl (by decide) (by omega) ?_)) | (apply z2k; ((refine zqx mix (by kernel_rfl) ?_) /- zhs -/)) | (apply z5l; (refine z61 rfl ?_)))))
 all_goals try (exfalso;omega)
 all_goals refine z3e 31 603 rfl (z0s (z0s (z0s hG1 (by simp)) (by simp)) (by simp)) (Or.inl rfl) rfl (Quiet.upd (Quiet.upd (Quiet.upd hQ1 rfl) rfl) rfl) ?_
 all_goals refine z3e 40 604 rfl (z0s (z0s (z0s (z0s hG2 (by simp)) (by simp)) (by simp)) (by simp)) (Or.inr rfl) rfl (Quiet.upd (Quiet.upd (Quiet.upd (Quiet.upd hQ2 rfl) rfl) rfl) rfl) ?_
 all_goals refine z39 600 0 600 (raw:=bbx 603 604) rfl rfl rfl rfl rfl ?_
 refine z0c Tryz.func172 _ (z1s rfl rfl rfl rfl rfl rfl) ⟨by dsimp only[ptc];rw[← hsh,← e1];rfl,rfl⟩
theorem bd2 (mn mx:Int) (rs:List Rg) (ks:List Rx) (t:Tb):bd (.mk 2 mn mx rs ks) t=bdC ks t ptE:=by rw[bd,zAx (by decide),zAy rfl]
theorem bd3 (mn mx:Int) (rs:List Rg) (ks:List Rx) (t:Tb):bd (.mk 3 mn mx rs ks) t=bdU ks t ptN:=by rw[bd,zAx (by decide),zAx (by decide),zAy rfl]
theorem zor (mn mx:Int) (rs:List Rg) (ks:List Rx) (hlen:ks.length≤9223372036854775807) (hv:zdf ks=true) (hk:∀ k∈ks,KB k) (t:Tb) (hs:Sm t) (hl:(t.lv.length:Int)+pnL ks≤64):zgk 172 [.d (Drx (.mk 2 mn mx rs ks))] t (bd (.mk 2 mn mx rs ks) t):=by
 rw[bd2,z4r]
 obtain⟨F,hF⟩:∃ F,bdC ks t ptE=F:=⟨_,rfl⟩
 rw[hF]
 refine z92 fun H hH hG1 hG2 hQ1 hQ2=>?_
 have hH0:=hH ((0,600),bbx 601 602) (by simp)
 have hH1:=hH ((0,601),lvr t.lv) (by simp)
 have hH2:=hH ((0,602),fwr t.fo) (by simp)
 refine z57 Tryz.func172 (by kernel_rfl) rfl (by simp) ?_
 dsimp only[Tryz.f172]
 refine z4g 600 0 600 hH0 rfl rfl ?_
 refine z4c 601 0 601 (z0s hH1 (by simp)) rfl rfl ?_
 refine z4c 602 0 602 (z0s (z0s hH2 (by simp)) (by simp)) rfl rfl ?_
 refine z4e 100601 rfl ?_
 refine z4e 100602 rfl ?_
 repeat' (first|(apply z04;(first|refine z0l ?_| (apply z0a;(refine z02 z18 rfl rfl ?_))|(apply z0d;(refine z02 z1a rfl rfl ?_))|(apply z0x;(refine z02 (z0y rfl) rfl rfl ?_))|(apply z0f;(refine z2d ?_))|(apply z0i;(refine z0b z1e ?_))|(apply z1c;(refine z0b z1q ?_))|(apply z1i;(refine z2x ?_))))|(apply z05;(first|refine z0k ?_|apply z09))|(apply z06;(first|apply z07|apply z00|refine z1b rfl ?_|refine z1f ?_| apply z01)))
 all_goals try (exfalso;omega)
 refine z0t ?_
 refine z0e (z1v (fun q:Nat × Tb × Pt=>⟨98,[(0,.ptr (0,600) 0),(3,.ptr (0,3) 0),(4,.ptr (0,4) 0),(6,.ptr (0,6) 0),(50,.d (.slice (ks.map rxc))),(51,I .i64 ks.length),(52,I .i64 (q.1:Nat)),(100600,.al (0,600) (1,600))],[(4,ptb ptN),(6,ptb q.2.2),(600,bbx 601 602),(601,lvr q.2.1.lv),(602,fwr q.2.1.fo)],U3 H⟩)
  (fun q=>q.1≤ks.length∧bdC (ks.drop q.1) q.2.1 q.2.2=F∧(∃ Z,Bl O1 Z t q.2.1 q.2.2)∧(q.2.1.lv.length:Int)+pnL (ks.drop q.1)≤64) (fun q=>ks.length-q.1) ?_ (0,t,ptE) ⟨zAf _,hF,⟨_,Bl.eps (Ex.refl hs.len)⟩,hl⟩) rfl rfl
 rintro⟨i,t',p⟩ ⟨i1,i2,⟨Z,i3⟩,i4⟩ ih
 simp only at i1 i2 i3 i4 ih ⊢
 by_cases hlt:i<ks.length
 · obtain⟨k,hki⟩:∃ k,ks[i]? =some k:=⟨_,zA0 hlt⟩
   have hmem:=zA2 hki
   have hvk:=z8b hv k hmem
   have hP:=zco.1 k hvk
   have hPr:0≤pnL (ks.drop (i+1)):=zec hv (i+1)
   rw[drop_cons hki,pnL] at i4
   rw[drop_cons hki,bdC] at i2
   obtain⟨s1,pf,pl⟩:=i3.sm hs (by omega)
   have hko:=zuc hvk
   have hbl:=hko.bl t' s1.len
   have hfw:=hko.few t' s1.len
   obtain⟨s2,qf,ql⟩:=hbl.sm s1 (by omega)
   have hk1:=hk k hmem t' s1 (by omega)
   generalize hB:bd k t'=r1 at *
   obtain⟨t1,q⟩:=r1
   have hfw2:(t1.lv.length:Int)≤t'.lv.length+pn k:=hfw
   obtain⟨ok,mk,xk,rk,kk⟩:=k
   rw[z4r] at hk1
   dsimp only[zgk,hks] at hk1
   have hcc:=zf6 (X:=600) (Y:=603) (Z:=604) (by decide) t1.fo p q pf pl qf ql (by rw[s2.len];omega) s2.sm t1.lv 0
   have ih':=ih (i+1,(z8g p q t1).1,(z8g p q t1).2) ⟨by simp only;omega,i2,⟨_,i3.cat hbl⟩,by show (t1.lv.length:Int)+_≤_;simp only;omega⟩ (by simp only;omega)
   repeat' (first|(apply z04;(first|refine z0l ?_| (apply z0a;(first|refine z02 z2j rfl rfl ?_| refine z02 z2a rfl rfl ?_))|(apply z0n;(refine z02 (z1o (ys:=ks.map rxc) rfl (zax hki)) rfl rfl ?_))|(apply z0z;(refine z02 (z14 z1p) rfl rfl ?_))|(apply z0f;(refine z2d ?_))|(apply z0i;(refine z0b z1e ?_))))|(apply z05;(first|refine z0k ?_|apply z09))|(apply z06;(first|apply z07|apply z00|apply z08|apply z01|apply z2z|apply z03|refine z0h (fun _=>?_) (fun _=>?_)| refine z0o ?_))|(apply z2v;(first|(apply z1l;refine z2n mix ?_)|refine zs3 hk1 (by first|exact rfl|exact⟨_,rfl,rfl,rfl⟩) rfl rfl rfl (by decide) rfl rfl rfl (by decide) ?_|refine z3h ?_| (apply z0u;(refine z0w z2a rfl rfl ?_))|(apply z22;(refine zhe hcc (by first|exact rfl|exact⟨_,rfl,rfl,rfl⟩) rfl rfl rfl (by decide) ?_))|(apply z2k;(refine z5o (by first|exact rfl|exact⟨_,rfl,rfl,rfl⟩) rfl rfl rfl rfl rfl rfl ?_)))))
   all_goals try (exfalso;omega)
   all_goals refine z4x 603 601 rfl rfl ?_
   all_goals refine z4x 604 602 rfl rfl ?_
   all_goals exact z0e ih' rfl rfl
 · obtain rfl:i=ks.length:=by omega
   rw[zAr,bdC] at i2
   exact zD31
theorem zo4 (mn mx:Int) (rs:List Rg) (ks:List Rx) (hlen:ks.length≤9223372036854775807) (hv:zdf ks=true) (hk:∀ k∈ks,KB k) (t:Tb) (hs:Sm t) (hl:(t.lv.length:Int)+pnL ks≤64):zgk 172 [.d (Drx (.mk 3 mn mx rs ks))] t (bd (.mk 3 mn mx rs ks) t):=by
 rw[bd3,z4r]
 obtain⟨F,hF⟩:∃ F,bdU ks t ptN=F:=⟨_,rfl⟩
 rw[hF]
 refine z92 fun H hH hG1 hG2 hQ1 hQ2=>?_
 have hH0:=hH ((0,600),bbx 601 602) (by simp)
 have hH1:=hH ((0,601),lvr t.lv) (by simp)
 have hH2:=hH ((0,602),fwr t.fo) (by simp)
 refine z57 Tryz.func172 (by kernel_rfl) rfl (by simp) ?_
 dsimp only[Tryz.f172]
 refine z4g 600 0 600 hH0 rfl rfl ?_
 refine z4c 601 0 601 (z0s hH1 (by simp)) rfl rfl ?_
 refine z4c 602 0 602 (z0s (z0s hH2 (by simp)) (by simp)) rfl rfl ?_
 refine z4e 100601 rfl ?_
 refine z4e 100602 rfl ?_
 repeat' (first|(apply z04;(first|refine z0l ?_| (apply z0a;(refine z02 z18 rfl rfl ?_))|(apply z0d;(refine z02 z1a rfl rfl ?_))|(apply z0x;(refine z02 (z0y rfl) rfl rfl ?_))|(apply z0i;(refine z0b z1e ?_))|(apply z1c;(refine z0b z1q ?_))))|(apply z05;(first|refine z0k ?_|apply z09))|(apply z06;(first|apply z07|apply z00|refine z1b rfl ?_|refine z1f ?_| apply z01)))
 all_goals try (exfalso;omega)
 refine z0t ?_
 refine z0e (z1v (fun q:Nat × Tb × Pt=>⟨98,[(0,.ptr (0,600) 0),(3,.ptr (0,3) 0),(4,.ptr (0,4) 0),(9,.ptr (0,9) 0),(67,.d (.slice (ks.map rxc))),(68,I .i64 ks.length),(69,I .i64 (q.1:Nat)),(100600,.al (0,600) (1,600))],[(4,ptb ptN),(9,ptb q.2.2),(600,bbx 601 602),(601,lvr q.2.1.lv),(602,fwr q.2.1.fo)],U3 H⟩)
  (fun q=>q.1≤ks.length∧bdU (ks.drop q.1) q.2.1 q.2.2=F∧(∃ Z,Bl O1 Z t q.2.1 q.2.2)∧(q.2.1.lv.length:Int)+pnL (ks.drop q.1)≤64) (fun q=>ks.length-q.1) ?_ (0,t,ptN) ⟨zAf _,hF,⟨_,Bl.none (Ex.refl hs.len)⟩,hl⟩) rfl rfl
 rintro⟨i,t',p⟩ ⟨i1,i2,⟨Z,i3⟩,i4⟩ ih
 simp only at i1 i2 i3 i4 ih ⊢
 by_cases hlt:i<ks.length
 · obtain⟨k,hki⟩:∃ k,ks[i]? =some k:=⟨_,zA0 hlt⟩
   have hmem:=zA2 hki
   have hvk:=z8b hv k hmem
   have hP:=zco.1 k hvk
   have hPr:0≤pnL (ks.drop (i+1)):=zec hv (i+1)
   rw[drop_cons hki,pnL] at i4
   rw[drop_cons hki,bdU] at i2
   obtain⟨s1,pf,pl⟩:=i3.sm hs (by omega)
   have hko:=zuc hvk
   have hbl:=hko.bl t' s1.len
   have hfw:=hko.few t' s1.len
   obtain⟨s2,qf,ql⟩:=hbl.sm s1 (by omega)
   have hk1:=hk k hmem t' s1 (by omega)
   generalize hB:bd k t'=r1 at *
   obtain⟨t1,q⟩:=r1
   have hfw2:(t1.lv.length:Int)≤t'.lv.length+pn k:=hfw
   obtain⟨ok,mk,xk,rk,kk⟩:=k
   rw[z4r] at hk1
   dsimp only[zgk,hks] at hk1
   have ih':=ih (i+1,t1,por p q) ⟨by simp only;omega,i2,⟨_,i3.or hbl⟩,by simp only;omega⟩ (by simp only;omega)
   obtain⟨qf',ql',qn⟩:=q
   obtain⟨pf',pl',pnn⟩:=p
   dsimp only[por,ptb] at ih' qf ql pf pl ⊢
   have ho1:=zrn pf qf
   have ho2:=zrn pl ql
   cases pnn with
   | true =>
    rw[Bool.true_or] at ih'
    repeat' (first|(apply z04;(first|refine z8i hk1 rfl rfl rfl (by decide) rfl rfl rfl (by decide) rfl rfl rfl rfl ?_|refine z0l ?_| (apply z0a;(first|refine z02 z18 rfl rfl ?_| refine z02 z2j rfl rfl ?_| refine z02 z2a rfl rfl ?_))|(apply z0d;(refine z02 z1a rfl rfl ?_))|(apply z0n;(refine z02 (z1o (ys:=ks.map rxc) rfl (zax hki)) rfl rfl ?_))|(apply z0z;(first|refine z02 zck rfl rfl ?_| refine z02 (z14 z1p) rfl rfl ?_))|(apply z0f;(refine z2d ?_))|(apply z0i;(refine z0b z1e ?_))|(apply z1i;(refine z2x ?_))))|(apply z05;(first|refine z0k ?_|apply z09|refine z1m ?_))|(apply z06;(first|apply z07|apply z00|apply z08|apply z01|apply z03|refine z0h (fun _=>?_) (fun _=>?_)| refine z0o ?_)))
    all_goals try (exfalso;omega)
    all_goals (rw[← ho1,← ho2] at ih';exact z0e ih' rfl rfl)
   | false =>
    rw[Bool.false_or] at ih'
    repeat' (first|(apply z04;(first|refine z8i hk1 rfl rfl rfl (by decide) rfl rfl rfl (by decide) rfl rfl rfl rfl ?_|refine z0l ?_| (apply z0a;(first|refine z02 z18 rfl rfl ?_| refine z02 z2j rfl rfl ?_| refine z02 z2a rfl rfl ?_))|(apply z0d;(refine z02 z1a rfl rfl ?_))|(apply z0n;(refine z02 (z1o (ys:=ks.map rxc) rfl (zax hki)) rfl rfl ?_))|(apply z0z;(first|refine z02 zck rfl rfl ?_| refine z02 (z14 z1p) rfl rfl ?_))|(apply z0f;(refine z2d ?_))|(apply z0i;(refine z0b z1e ?_))|(apply z1i;(refine z2x ?_))))|(apply z05;(first|refine z0k ?_|apply z09))|(apply z06;(first|apply z07|apply z00|apply z08|apply z01|apply z03|refine z0h (fun _=>?_) (fun _=>?_)| refine z0o ?_)))
    all_goals try (exfalso;omega)
    all_goals (rw[← ho1,← ho2] at ih';exact z0e ih' rfl rfl)
 · obtain rfl:i=ks.length:=by omega
   rw[zAr,bdU] at i2
   exact zD31
theorem zp7 (op mn mx:Int) (rs:List Rg) (ks:List Rx) (h1:op≠1) (h2:op≠2) (h3:op≠3) (t:Tb) (r:Tb × Pt) (hr:zgk 189 [.d (Drx (.mk op mn mx rs ks))] t r):zgk 172 [.d (Drx (.mk op mn mx rs ks))] t r:=by
 rw[z4r] at hr ⊢
 dsimp only[zgk,hks] at hr
 refine z92 fun H hH hG1 hG2 hQ1 hQ2=>?_
 have hH0:=hH ((0,600),bbx 601 602) (by simp)
 have hH1:=hH ((0,601),lvr t.lv) (by simp)
 have hH2:=hH ((0,602),fwr t.fo) (by simp)
 refine z57 Tryz.func172 (by kernel_rfl) rfl (by simp) ?_
 dsimp only[Tryz.f172]
 refine z4g 600 0 600 hH0 rfl rfl ?_
 refine z4c 601 0 601 (z0s hH1 (by simp)) rfl rfl ?_
 refine z4c 602 0 602 (z0s (z0s hH2 (by simp)) (by simp)) rfl rfl ?_
 refine z4e 100601 rfl ?_
 refine z4e 100602 rfl ?_
 repeat' (first|(apply z04;(first|refine z8i hr rfl rfl rfl (by decide) rfl rfl rfl (by decide) rfl rfl rfl rfl ?_|refine z0l ?_| (apply z0a;(first|refine z02 z2c rfl rfl ?_| refine z02 z18 rfl rfl ?_))|(apply z0d;(refine z02 z1a rfl rfl ?_))|(apply z0x;(first|refine z02 (z0y rfl) rfl rfl ?_| refine z02 (z3m rfl) rfl rfl ?_))|(apply z0f;(refine z2d ?_))|(apply z0i;(refine z0b z1e ?_))|(apply z1c;(refine z0b z1q ?_))|(apply z1i;(refine z2x ?_))))|(apply z05;(first|refine z0k ?_|apply z09))|(apply z06;(first|apply z07|apply z00|apply z08|apply z01|apply z03|refine z0h (fun _=>?_) (fun _=>?_))))
 all_goals exact zD5
theorem zra:∀ e:Rx,vns e=true→fit e→KB e:=by
 refine Rx.ind' fun op mn mx rs ks ih hv hf t hs hl=>?_
 rw[vns,zA7] at hv
 rw[fit] at hf
 have ih':∀ k∈ks,KB k:=fun k hk=>ih k hk (z8b hv.2 k hk) (z9d hf.2.2 k hk)
 have hvn:=hv.1
 rw[vn] at hvn
 by_cases h1:op=1
 · subst h1
   rw[Rx.pn,zAy rfl] at hl
   exact zog mn mx rs ks t hs hl
 rw[zAx h1] at hvn
 by_cases h2:op=2
 · subst h2
   rw[Rx.pn,zAx (by decide),zAx (by decide)] at hl
   exact zor mn mx rs ks hf.2.1 hv.2 ih' t hs hl
 rw[zAx h2] at hvn
 by_cases h3:op=3
 · subst h3
   rw[Rx.pn,zAx (by decide),zAx (by decide)] at hl
   exact zo4 mn mx rs ks hf.2.1 hv.2 ih' t hs hl
 rw[zAx h3] at hvn
 by_cases h4:op=4
 · subst h4
   rw[zAy rfl] at hvn
   simp only[zA7,zAt,zA3] at hvn
   obtain⟨⟨⟨⟨a1,a2⟩,a3⟩,a4⟩,a5⟩:=hvn
   match ks,a2,ih',hv,hl with
   | [k],_,ih',hv,hl =>
    have hvk:=z8b hv.2 k (by simp)
    rw[Rx.pn,zAx (by decide),zAy rfl,pnL,pnL,Int.add_zero] at hl
    have hb:bd (.mk 4 mn mx rs [k]) t=rp (bd k) mn mx t:=by
     rw[bd,zAx (by decide),zAx (by decide),zAx (by decide)]
     have:(fun t=>bd1 [k] t)=bd k:=by funext t;rw[bd1]
     rw[this]
    rw[hb]
    exact zp7 4 mn mx rs [k] (by decide) (by decide) (by decide) t _ (zun 4 mn mx rs k hvk (ih' k (by simp)) a3 a4 a5 t hs hl)
 · rw[zAx h4] at hvn;cases hvn
abbrev tb0:Tb:=⟨[],[]⟩
abbrev ofB (e:Rx):Blk:=tbx (bd e tb0).1.lv (bd e tb0).2.f (bd e tb0).2.l (bd e tb0).1.fo (bd e tb0).2.nu
theorem zzc (e:Rx) (hv:vns e=true) (hf:fit e) (hp:Rx.pn e≤64) (H:Hf):Ab.Spec Tryz.prog 152 [.d (Drx e)] H (fun r H'=>r=.new (ofB e)∧H'=H):=by
 have hk:=zra e hv hf tb0 ⟨rfl,by simp⟩ (by simp;exact hp)
 dsimp only[ofB]
 generalize hB:bd e tb0=r1 at *
 obtain⟨⟨lv,fo⟩,p⟩:=r1
 obtain⟨op,mn,mx,rs,ks⟩:=e
 rw[z4r] at hk ⊢
 dsimp only[zgk,hks] at hk
 refine z0g Tryz.func152 (by kernel_rfl) rfl (by simp) ?_
 dsimp only[Tryz.f152]
 repeat' (first|(apply z04;(first|refine z8i hk rfl rfl rfl (by decide) rfl rfl rfl (by decide) rfl rfl rfl rfl ?_|refine z0l ?_| (apply z0a;(refine z02 z2a rfl rfl ?_))|(apply z0f;(refine z2d ?_))|(apply z0i;(refine z0b z1e ?_))|(apply z1c;(first|(refine z0b z45 ?_;refine zfa 6 600 rfl rfl ?_;refine zdq 600 0 601 110 1 rfl rfl rfl rfl ?_;refine zdq 600 3 602 182 1 rfl rfl rfl rfl ?_)|refine z0b z1q ?_))|(apply z1i;(refine z2x ?_))))|(apply z05;(first|refine z0k ?_|apply z09))|(apply z06;(first|apply z07|apply z00|apply z2z))|(apply z2v;(first|(apply z1l;refine z2n mix ?_)|refine z3h ?_| (apply z0u;(refine z0w z18 rfl rfl ?_))|(apply z0q;(refine z0w z1a rfl rfl ?_))|(apply z2k;(refine z5o (by first|exact rfl|exact⟨_,rfl,rfl,rfl⟩) rfl rfl rfl rfl rfl rfl ?_)))))
 all_goals try (exfalso;omega)
 refine z19 601 rfl ?_
 refine z19 602 rfl ?_
 refine z0c Tryz.func152 _ (zgo (ms:=600) rfl rfl rfl rfl) ⟨rfl,rfl⟩
end Go.Proofs.YtonhfccmeammbaaGreatDoor
