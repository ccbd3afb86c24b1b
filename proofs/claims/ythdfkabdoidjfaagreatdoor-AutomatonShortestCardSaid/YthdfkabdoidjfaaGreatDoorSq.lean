/- A part of the proof: G22 to G28. -/
import Derived.Test.YthdfkabdoidjfaaGreatDoorSt
import Derived.Test.YthdfkabdoidjfaaGreatDoorSc
import Derived.Test.YthdfkabdoidjfaaGreatDoorSx
set_option linter.all false
namespace Go.Proofs.YthdfkabdoidjfaaGreatDoor
open Go.Ab Go.Rx
set_option maxHeartbeats 20000000
set_option maxRecDepth 100000
attribute [local irreducible] Run Ops Op1 z25 Val Tr z0y z1x NF Rel z3j z3l
abbrev n64 (x:Nat):List D:=[zy0 (x:Nat)]
abbrev lvs (l:List (List Rg)):D:=.slice (l.map fun r=>[rgs r])
abbrev tbx (lv:List (List Rg)) (f l:Nat) (fo:List Nat) (nu:Bool):Blk:=.box [.d (lvs lv),I .u64 (f:Nat),I .u64 (l:Nat),.d (.slice (fo.map n64)),B nu]
theorem zyu {l:List Nat} {k:Nat} {x:Nat} (h:l[k]? =some x):(l.map n64)[((k:Nat):Int).toNat]? =some (n64 x):=by simp[h]
theorem zvi {X:Nat} (lv:List (List Rg)) (f l:Nat) (fo:List Nat) (nu:Bool) (S:Nat) (hS:S<2 ^ 64) (hfo:fo.length≤64) (hfx:∀ x∈fo,x<2 ^ 64) (beg:Bool) (e0:Nat) :
 z1x Tryz.prog 60 [.ptr (e0,X) 0,I .u64 (S:Nat),B beg] [((e0,X),tbx lv f l fo nu)] [] (I .u64 ((if beg=true then f else nxF S 0 0 fo:Nat):Int)):=by
 refine z22 fun H hH=>?_
 have hX:H e0 X=some (tbx lv f l fo nu):=hH ((e0,X),tbx lv f l fo nu) (by simp)
 refine z0k Tryz.func60 (by kernel_rfl) rfl (by simp) ?_
 dsimp only[Tryz.f60]
 cases beg with
 | true =>
  rw[zAz rfl]
  repeat' (first|(apply z08;(first|refine z0o ?_| (apply z0a;(refine z3q rfl hX rfl rfl rfl rfl (by decide) ?_))|(apply z0e;(refine z02 z0t rfl rfl ?_))))|(apply z07;(first|refine z0m ?_|apply z09))|(apply z05;(first|apply z06|apply z00|refine z1a ?_)))
  all_goals try (exfalso;omega)
  all_goals exact z0p Tryz.func60 _ z1c ⟨rfl,rfl⟩
 | false =>
  rw[zAy (by decide)]
  repeat' (first|(apply z08;(first|refine z0o ?_| (apply z0a;(refine z3q rfl hX rfl rfl rfl rfl (by decide) ?_))|(apply z0e;(refine z02 z0t rfl rfl ?_))|(apply z13;(refine z02 (z1o rfl) rfl rfl ?_))))|(apply z07;(first|refine z0m ?_|apply z09))|(apply z05;(first|apply z06|apply z00|refine z0v ?_| apply z04|apply z01)))
  all_goals try (exfalso;omega)
  refine z19 ?_
  refine z0c (z1v (fun q:Nat × Nat=>⟨35,[(1,I .u64 (S:Nat)),(18,.d (.slice (fo.map n64))),(19,I .i64 fo.length),(20,I .i64 (q.1:Nat)),(7,I .u64 (q.2:Nat))],[],H⟩) (fun q=>q.1≤fo.length∧q.2<2 ^ 64∧nxF S q.1 q.2 (fo.drop q.1)=nxF S 0 0 fo) (fun q=>fo.length-q.1) ?_ (0,0) ⟨zAf _,by decide,rfl⟩) rfl rfl
  rintro⟨q,acc⟩ ⟨i1,i2,i3⟩ ih
  simp only at i1 i2 i3 ih ⊢
  by_cases hlt:q<fo.length
  · obtain⟨x,hx⟩:∃ x,fo[q]? =some x:=⟨_,zA0 hlt⟩
    have hxl:=hfx x (zA2 hx)
    rw[drop_cons hx,nxF] at i3
    have hb:=zup (i:=q) hS (by omega)
    have ho:=y2f i2 hxl
    by_cases ht:S.testBit q=true
    · rw[zAz ht] at i3 hb
      repeat' (first|(apply z08;(first|refine z0o ?_| (apply z0a;(refine z02 z2l rfl rfl ?_))|(apply z0i;(refine z02 (z23 (ys:=fo.map n64) rfl (zyu hx)) rfl rfl ?_))|(apply z0r;(first|refine z02 (zc3 (by omega)) rfl rfl ?_| refine z02 z7p rfl rfl ?_| refine z02 zjc rfl rfl ?_| refine z02 (z0s z0w) rfl rfl ?_))))|(apply z07;(first|refine z0m ?_|apply z09))|(apply z05;(first|apply z06|apply z00|apply z04|apply z01|apply z03|refine z0f (fun _=>?_) (fun _=>?_)| refine z0j ?_)))
      all_goals try (exfalso;omega)
      all_goals (rw[ho];exact z0c (ih (q+1,acc ||| x) ⟨by simp only;omega,Nat.or_lt_two_pow i2 hxl,i3⟩ (by simp only;omega)) rfl rfl)
    · rw[zAy ht] at i3 hb
      repeat' (first|(apply z08;(first|refine z0o ?_| (apply z0a;(refine z02 z2l rfl rfl ?_))|(apply z0i;(refine z02 (z23 (ys:=fo.map n64) rfl (zyu hx)) rfl rfl ?_))|(apply z0r;(first|refine z02 (zc3 (by omega)) rfl rfl ?_| refine z02 z7p rfl rfl ?_| refine z02 zjc rfl rfl ?_| refine z02 (z0s z0w) rfl rfl ?_))))|(apply z07;(first|refine z0m ?_|apply z09))|(apply z05;(first|apply z06|apply z00|apply z04|apply z01|apply z03|refine z0f (fun _=>?_) (fun _=>?_)| refine z0j ?_)))
      all_goals try (exfalso;omega)
      all_goals exact z0c (ih (q+1,acc) ⟨by simp only;omega,i2,i3⟩ (by simp only;omega)) rfl rfl
  · obtain rfl:q=fo.length:=by omega
    rw[zAs,nxF] at i3
    rw[← i3]
    repeat' (first|(apply z08;(refine z0o ?_))|(apply z07;(first|refine z0m ?_|apply z09))|(apply z05;(first|apply z06|apply z00|apply z04|apply z01|refine z0f (fun _=>?_) (fun _=>?_)| refine z0j ?_)))
    all_goals try (exfalso;omega)
    all_goals exact z0p Tryz.func60 _ z1c ⟨rfl,rfl⟩
abbrev bbx (Y Z:Nat):Blk:=.box [.ref (0,Y),I .u64 0,I .u64 0,.ref (0,Z),B false]
theorem zbh (a b:Nat):∀ (l:List Nat) (i:Nat),(lnk a b i l).length=l.length
 | [],_=>rfl
 | x::l,i=>by rw[lnk,zAk,zAk,zbh a b l]
theorem zb1 (a b:Nat):∀ (l:List Nat) (i q:Nat) (x:Nat),l[q]? =some x→(lnk a b i l)[q]? =some (if a.testBit (i+q)=true then x ||| b else x)
 | y::l,i,0,x,h=>by simp at h;subst h;rw[lnk];simp
 | y::l,i,q+1,x,h=>by
  rw[List.getElem?_cons_succ] at h
  rw[lnk,List.getElem?_cons_succ,zb1 a b l (i+1) q x h,show i+1+q=i+(q+1) by omega]
theorem zw5 {L fo:List Nat} {q v x:Nat} (hL:L[q]? =some v) (hx:fo[q]? =some x):(L.take q++fo.drop q).set q v=L.take (q+1)++fo.drop (q+1):=by
 have hq:=(zA1.1 hL).1
 have hl:(L.take q).length=q:=by rw[zAm];omega
 rw[drop_cons hx,z5s hL,zAl,List.set_append_right _ _ (by omega),hl,Nat.sub_self]
 rfl
theorem zpa {P:Program} {f:FuncId} {R:z3w} {k:List Item} {all:Array Oper} {l:List Oper} {n:Nat} {tm:List (Nat × PV)} {hp:Hp} {up:Hf} {ty:TypeId} {pos:String} {aft:Array Edge} {gd:Option (Nat × Bool)} {t e:TypeId} {ti:TI} {x y:Operand} {md ms kk i off:Nat} {p:PV} {ys ys':List (List D)} {z:List D} {ps:List PV} {ds:List D} [ht:z1i P t ti] (hev:St.evs ⟨n,tm,hp,up⟩ [x,y]=some [.rptr (md+1,ms) kk i off,p]) (hb:up md ms=some (.row e kk ys)) (hp':cellsOf p=some ps) (hds:z7z ps=some ds)
 (hz:ys[i]? =some z) (hs:ds.length=ti.size) (hf:decide (off+ds.length≤kk)=true) (hys:ys.set i (z1d z off ds)=ys') (h:Ops P f R all l k ⟨n,tm,hp,upd up (md,ms) (.row e kk ys')⟩):Op1 P f R all ⟨none,.store t x y,ty,pos,aft,gd⟩ l k ⟨n,tm,hp,up⟩ :=
 zm8 (m:=(md+1,ms)) hev hb hp' hds hz hs hf hys rfl h
theorem zwq {X Y Z:Nat} (hXZ:X≠Z) (fo:List Nat) (a b:Nat) (ha:a<2 ^ 64) (hb:b<2 ^ 64) (hfo:fo.length≤64) (hfx:∀ x∈fo,x<2 ^ 64) (e0:Nat) :
 z1x Tryz.prog 125 [.ptr (e0,X) 0,I .u64 (a:Nat),I .u64 (b:Nat)] [((e0,X),bbx Y Z),((e0,Z),.row 76 1 (fo.map n64))] [((e0,Z),.row 76 1 ((lnk a b 0 fo).map n64))] (.tup []):=by
 refine z22 fun H hH=>?_
 have hX:H e0 X=some (bbx Y Z):=hH ((e0,X),bbx Y Z) (by simp)
 have hZ:H e0 Z=some (.row 76 1 (fo.map n64)):=hH ((e0,Z),.row 76 1 (fo.map n64)) (by simp)
 have hZ':H (0+e0) Z=some (.row 76 1 (fo.map n64)):=by rw[Nat.zero_add];exact hZ
 have hll:(lnk a b 0 fo).length=fo.length:=zbh a b fo 0
 refine z0k Tryz.func125 (by kernel_rfl) rfl (by simp) ?_
 dsimp only[Tryz.f125]
 repeat' (first|(apply z08;(first|refine z0o ?_| (apply z0a;(refine z3q rfl hX rfl rfl rfl rfl (by decide) ?_))|(apply z0e;(refine z02 z0t rfl rfl ?_))|(apply z13;(refine z02 (z1t rfl) rfl (bkN hZ') ?_))))|(apply z07;(first|refine z0m ?_|apply z09))|(apply z05;(first|apply z06|apply z00|apply z01)))
 all_goals try (exfalso;omega)
 refine z19 ?_
 refine y4y (m:=(0+e0,Z)) hZ' ?_
 refine z0c (z1v (fun q:Nat=>⟨31,[(0,.ptr (e0+1,X) 0),(1,I .u64 (a:Nat)),(2,I .u64 (b:Nat)),(11,I .i64 fo.length),(12,I .i64 (q:Nat))],[],upd H (0+e0,Z) (.row 76 1 (((lnk a b 0 fo).take q++fo.drop q).map n64))⟩) (fun q=>q≤fo.length) (fun q=>fo.length-q) ?_ 0 (zAf _)) rfl rfl
 intro q i1 ih
 by_cases hlt:q<fo.length
 · obtain⟨x,hx⟩:∃ x,fo[q]? =some x:=⟨_,zA0 hlt⟩
   have hxl:=hfx x (zA2 hx)
   obtain⟨W,hW⟩:∃ W,(lnk a b 0 fo).take q++fo.drop q=W:=⟨_,rfl⟩
   have hWq:W[q]? =some x:=by rw[← hW,zAg (by rw[zAm];omega),zAm,hll,Nat.min_eq_left i1,Nat.sub_self,List.getElem?_drop];exact hx
   have hXW:upd H (0+e0,Z) (.row 76 1 (W.map n64)) e0 X=some (bbx Y Z):=z10 hX (by simp[hXZ])
   have hZW:upd H (0+e0,Z) (.row 76 1 (W.map n64)) (0+e0) Z=some (.row 76 1 (W.map n64)):=z1l _ _ _
   have hWl:W.length=fo.length:=by rw[← hW,zAa,zAm,List.length_drop,hll];omega
   rw[hW]
   have hbt:=zup (S:=a) (i:=q) ha (by omega)
   have hor:=y2f hxl hb
   have hLg:=zb1 a b fo 0 q x hx
   rw[Nat.zero_add] at hLg
   have hst:=zw5 hLg hx
   rw[hW] at hst
   have ih':=ih (q+1) (by omega) (by omega)
   rw[← hst] at ih'
   have hys:(W.map n64).set ((q:Nat):Int).toNat [zy0 (orV .u64 (x:Nat) (b:Nat))]=(W.set q (x ||| b)).map n64:=by rw[hor,zA9,List.map_set]
   have hidx:(W.map n64)[((q:Nat):Int).toNat]? =some (n64 x):=zyu hWq
   by_cases ht:a.testBit q=true
   · rw[zAz ht] at hbt ih'
     repeat' (first|(apply z08;(first|refine z0o ?_| (apply z0a;(first|refine z02 (zs7 hidx rfl rfl rfl) rfl (bkN hZW) ?_| refine z3q rfl hXW rfl rfl rfl rfl (by decide) ?_))|(apply z0e;(refine z02 z0t rfl rfl ?_))|(apply z0i;(refine z02 (z2h rfl (by rw[zA4];omega)) rfl (bkN hZW) ?_))|(apply z0r;(first|refine z02 (zc3 (by omega)) rfl rfl ?_| refine z02 z7p rfl rfl ?_| refine z02 zjc rfl rfl ?_| refine z02 (z0s z0w) rfl rfl ?_))|(apply z0d;(refine zpa (md:=0+e0) (ms:=Z) rfl hZW rfl rfl hidx rfl rfl hys ?_))))|(apply z07;(first|refine z0m ?_|apply z09))|(apply z05;(first|apply z06|apply z00|apply z04|apply z01|apply z03|refine z0f (fun _=>?_) (fun _=>?_)| refine z0j ?_)))
     all_goals try (exfalso;omega)
     all_goals (rw[z4g];exact z0c ih' rfl rfl)
   · rw[zAy ht] at hbt ih'
     have hid:W.set q x=W:=by
      obtain⟨g1,g2⟩:=zA1.1 hWq
      rw[← g2];exact List.set_getElem_self g1
     rw[hid] at ih'
     repeat' (first|(apply z08;(first|refine z0o ?_| (apply z0e;(refine z02 z0t rfl rfl ?_))|(apply z0r;(first|refine z02 (zc3 (by omega)) rfl rfl ?_| refine z02 z7p rfl rfl ?_| refine z02 (z0s z0w) rfl rfl ?_))))|(apply z07;(first|refine z0m ?_|apply z09))|(apply z05;(first|apply z06|apply z00|apply z04|apply z01|apply z03|refine z0f (fun _=>?_) (fun _=>?_)| refine z0j ?_)))
     all_goals exact zD14
 · obtain rfl:q=fo.length:=by omega
   rw[zAs,List.append_nil,← hll,List.take_length]
   repeat' (first|(apply z08;(refine z0o ?_))|(apply z07;(first|refine z0m ?_|apply z09))|(apply z05;(first|apply z06|apply z00|apply z04|apply z01|refine z0f (fun _=>?_) (fun _=>?_)| refine z0j ?_)))
   all_goals try (exfalso;omega)
   all_goals exact zd3 Tryz.func125 _ (z3d rfl) ⟨rfl,by rw[Nat.zero_add];rfl⟩
theorem znl {P:Program} {f:FuncId} {R:z3w} {k:List Item} {all:Array Oper} {l:List Oper} {n:Nat} {tm:List (Nat × PV)} {hp:Hp} {up:Hf} {d:Nat} {ty:TypeId} {pos:String} {aft:Array Edge} {gd:Option (Nat × Bool)} {p:PV} {g:FuncId} {args:List Operand} {ps:List PV} {ats:Array TypeId} {md m1 m2:Nat} {b1 b2 b':Blk}
 (hsp:z1x P g ps [((md+1,m1),b1),((md+1,m2),b2)] [((md+1,m2),b')] p) (hev:St.evs ⟨n,tm,hp,up⟩ args=some ps) (h1:up md m1=some b1) (h2:up md m2=some b2) (hd:d<n)
 (h:Ops P f R all l k ⟨n,(d,p)::tm,hp,upd up (md,m2) b'⟩):Op1 P f R all ⟨some d,.call ⟨.value (.func g),args.toArray,ats⟩,ty,pos,aft,gd⟩ l k ⟨n,tm,hp,up⟩ :=
 zkg hsp hev (z3i (m:=(md+1,m1)) h1 (z3i (m:=(md+1,m2)) h2 zwt)) hd rfl h
abbrev ptc (p:Pt):List D:=[zy0 (p.f:Nat),zy0 (p.l:Nat),z9m p.nu]
theorem y31 {X Y Z:Nat} (hXZ:X≠Z) (fo:List Nat) (a b:Pt) (ha1:a.f<2 ^ 64) (ha2:a.l<2 ^ 64) (hb1:b.f<2 ^ 64) (hb2:b.l<2 ^ 64) (hfo:fo.length≤64) (hfx:∀ x∈fo,x<2 ^ 64) (lv:List (List Rg)) (e0:Nat) :
 z1x Tryz.prog 119 [.ptr (e0,X) 0,.d (.agg (ptc a)),.d (.agg (ptc b))] [((e0,X),bbx Y Z),((e0,Z),.row 76 1 (fo.map n64))] [((e0,Z),.row 76 1 ((lnk a.l b.f 0 fo).map n64))] (.d (.agg (ptc (zci a b ⟨lv,fo⟩).2))):=by
 refine z22 fun H hH=>?_
 have hX:H e0 X=some (bbx Y Z):=hH ((e0,X),bbx Y Z) (by simp)
 have hZ:H e0 Z=some (.row 76 1 (fo.map n64)):=hH ((e0,Z),.row 76 1 (fo.map n64)) (by simp)
 have hl:=zwq (X:=X) (Y:=Y) (Z:=Z) hXZ fo a.l b.f ha2 hb1 hfo hfx (e0+1)
 have ho1:=y2f ha1 hb1
 have ho2:=y2f hb2 ha2
 obtain⟨af,al,an⟩:=a
 obtain⟨bf,bl,bn⟩:=b
 refine z0k Tryz.func119 (by kernel_rfl) rfl (by simp) ?_
 dsimp only[Tryz.f119,zci]
 simp only at hl ho1 ho2
 cases an <;> cases bn <;> skip
 all_goals (try simp only[if_true,if_false,Bool.false_eq_true])
 all_goals (try rw[← ho1]) 
 all_goals (try rw[← ho2])
 · repeat' (first|(apply z08;(first|refine z0o ?_| (apply z0a;(first|refine z02 z1k rfl rfl ?_| refine z02 z2m rfl rfl ?_))|(apply z0e;(refine z02 z0t rfl rfl ?_))|(apply z0q;(refine znl hl rfl hX hZ (by decide) ?_))|(apply z0d;(refine z29 ?_))|(apply z0g;(refine z0b z1f ?_))|(apply z1s;(refine z0b (z5v rfl rfl (by decide)) ?_))|(apply z1b;(refine z2k ?_))))|(apply z07;(first|refine z0m ?_|apply z09|refine z1u ?_))|(apply z05;(first|apply z06|apply z00|refine z0v ?_| apply z04)))
   all_goals exact zD40
 · repeat' (first|(apply z08;(first|refine z0o ?_| (apply z0a;(first|refine z02 z1k rfl rfl ?_| refine z02 z2m rfl rfl ?_))|(apply z0e;(refine z02 z0t rfl rfl ?_))|(apply z0r;(refine z02 zjc rfl rfl ?_))|(apply z0q;(refine znl hl rfl hX hZ (by decide) ?_))|(apply z0d;(refine z29 ?_))|(apply z0g;(refine z0b z1f ?_))|(apply z1s;(refine z0b (z5v rfl rfl (by decide)) ?_))|(apply z1b;(refine z2k ?_))))|(apply z07;(first|refine z0m ?_|apply z09|refine z1u ?_))|(apply z05;(first|apply z06|apply z00|refine z1a ?_| refine z0v ?_| apply z04)))
   all_goals exact zD40
 · repeat' (first|(apply z08;(first|refine z0o ?_| (apply z0a;(first|refine z02 z1k rfl rfl ?_| refine z02 z2m rfl rfl ?_))|(apply z0e;(refine z02 z0t rfl rfl ?_))|(apply z0r;(refine z02 zjc rfl rfl ?_))|(apply z0q;(refine znl hl rfl hX hZ (by decide) ?_))|(apply z0d;(refine z29 ?_))|(apply z0g;(refine z0b z1f ?_))|(apply z1s;(refine z0b (z5v rfl rfl (by decide)) ?_))|(apply z1b;(refine z2k ?_))))|(apply z07;(first|refine z0m ?_|apply z09))|(apply z05;(first|apply z06|apply z00|refine z1a ?_| refine z0v ?_| apply z04)))
   all_goals exact zD40
 · repeat' (first|(apply z08;(first|refine z0o ?_| (apply z0a;(first|refine z02 z1k rfl rfl ?_| refine z02 z2m rfl rfl ?_))|(apply z0e;(refine z02 z0t rfl rfl ?_))|(apply z0r;(refine z02 zjc rfl rfl ?_))|(apply z0q;(refine znl hl rfl hX hZ (by decide) ?_))|(apply z0d;(refine z29 ?_))|(apply z0g;(refine z0b z1f ?_))|(apply z1s;(refine z0b (z5v rfl rfl (by decide)) ?_))|(apply z1b;(refine z2k ?_))))|(apply z07;(first|refine z0m ?_|apply z09))|(apply z05;(first|apply z06|apply z00|refine z1a ?_)))
   all_goals exact zD40
attribute [local irreducible] zca
abbrev lv1 (r:List Rg):List D:=[rgs r]
abbrev lvr (lv:List (List Rg)):Blk:=.row 41 1 (lv.map lv1)
abbrev fwr (fo:List Nat):Blk:=.row 76 1 (fo.map n64)
abbrev bks (t:Tb):List (Nm × Blk):=[((0,600),bbx 601 602),((0,601),lvr t.lv),((0,602),fwr t.fo)]
abbrev hks (t:Tb):List (Nm × Blk):=[((0,600),.gone),((0,601),.gone),((0,602),.gone),((0,603),lvr t.lv),((0,604),fwr t.fo),((0,600),bbx 603 604)]
abbrev zjp (g:FuncId) (args:List PV) (t:Tb) (r:Tb × Pt):Prop:=zca Tryz.prog g (.ptr (0,600) 0::args) (bks t) (hks r.1) (.d (.agg (ptc r.2))) 603 604
theorem zdk (op mn mx:Int) (rs:List Rg) (ks:List Rx):Drx (.mk op mn mx rs ks)=.agg (rx5 op mn mx rs ks):=congrArg D.agg (z4k op mn mx rs ks)
abbrev U3 (H:Hf):Hf:=upd (upd (upd H (0,600) .gone) (0,601) .gone) (0,602) .gone
abbrev ptb (p:Pt):Blk:=.box [.d (zy0 (p.f:Nat)),.d (zy0 (p.l:Nat)),.d (z9m p.nu)]
abbrev y7d (op mn mx:Int) (rs:List Rg) (c:List D):List D:=[z2t op,z2t mn,z2t mx,rgs rs,.slice [c]]
theorem y13 (op mn mx:Int) (rs:List Rg) (ok mk xk:Int) (rk:List Rg) (kk:List Rx):rx5 op mn mx rs [.mk ok mk xk rk kk]=y7d op mn mx rs (rx5 ok mk xk rk kk):=by
 show [z2t op,z2t mn,z2t mx,rgs rs,.slice [rxc (.mk ok mk xk rk kk)]]=_
 rw[z4k]
theorem zmq (mn mx:Int) (rs:List Rg) (ks:List Rx) (t:Tb) (hs:Sm t) (hl:(t.lv.length:Int)+1≤64):zjp 105 [.d (Drx (.mk 1 mn mx rs ks))] t (bd (.mk 1 mn mx rs ks) t):=by
 rw[bd,zAz rfl,zdk]
 have hsh:=y3p (i:=t.lv.length) (by omega)
 have e1:(t.lv.map lv1).length=t.lv.length:=zA4 _
 have e2:=hs.len
 refine zfn fun H hH hG1 hG2 hQ1 hQ2=>?_
 have hH0:=hH ((0,600),bbx 601 602) (by simp)
 have hH1:=hH ((0,601),lvr t.lv) (by simp)
 have hH2:=hH ((0,602),fwr t.fo) (by simp)
 refine z7k Tryz.func105 (by kernel_rfl) rfl (by simp) ?_
 dsimp only[Tryz.f105]
 refine z3x 600 0 600 hH0 ?_
 refine z2w 601 0 601 (z10 hH1 (by simp)) rfl rfl ?_
 refine z2w 602 0 602 (z10 (z10 hH2 (by simp)) (by simp)) rfl rfl ?_
 refine z8k 100601 rfl ?_
 refine z8k 100602 rfl ?_
 repeat' (first | (apply z08; (first | refine z0o ?_| (apply z0a; (refine z02 z1k rfl rfl ?_)) | (apply z0e; (refine z02 z0t rfl rfl ?_)) | (apply z0r; (refine z02 (zsh (by omega)) rfl rfl ?_)) | (apply z13; (first | refine z3t (g := n64) 0 rfl ?_| refine z02 (z7r rfl) rfl rfl ?_)) | (apply z0d; (refine z29 ?_)) | (apply z0g; (refine z0b z1f ?_)) | (apply z1s; (refine z0b (z5v rfl rfl (by decide)) ?_)) | (apply z1b; (refine z2k ?_)) | (apply z2i; (refine z2n rfl ?_)))) | (apply z07; (first | refine z0m ?_ | apply z09)) | (apply z05; (first | apply z06 | apply z00 | refine z1a ?_| apply z01 | apply z2c)) | (apply z2d; (first | refine z2e ?_| (apply z0l; (refine z0h z1k rfl rfl ?_)) | (apply z11; (refine z0h z0t rfl rfl ?_)) | (apply z6u; (refine zbs (g := lv1) (by first | exact rfl | exact ⟨_, rfl, rfl, rfl⟩) rfl rfl rs rfl rfl rfl rfl rfl rfl rfl (by decide) (by omega) ?_)) | (apply z1r; ((refine zxi mix (by kernel_rfl) ?_) /- zjj -/)) | (apply zal; (refine zfg rfl ?_)))))
 all_goals try (exfalso;omega)
 all_goals refine z8p 31 603 rfl (z10 (z10 (z10 hG1 (by simp)) (by simp)) (by simp)) (Or.inl rfl) rfl (Quiet.upd (Quiet.upd (Quiet.upd hQ1 rfl) rfl) rfl) ?_
 all_goals refine z8p 40 604 rfl (z10 (z10 (z10 (z10 hG2 (by simp)) (by simp)) (by simp)) (by simp)) (Or.inr rfl) rfl (Quiet.upd (Quiet.upd (Quiet.upd (Quiet.upd hQ2 rfl) rfl) rfl) rfl) ?_
 all_goals refine z4l (raw:=bbx 603 604) 600 0 600 ?_
 refine z0p Tryz.func105 _ (z55 rfl rfl rfl rfl rfl rfl) ⟨by dsimp only[ptc];rw[← hsh,← e1];rfl,rfl⟩
theorem zu0 (op mn mx:Int) (rs:List Rg) (ks:List Rx) (h1:op≠1) (h2:op≠2) (h3:op≠3) (t:Tb) (r:Tb × Pt) (hr:zjp 120 [.d (Drx (.mk op mn mx rs ks))] t r):zjp 105 [.d (Drx (.mk op mn mx rs ks))] t r:=by
 rw[zdk] at hr ⊢
 dsimp only[zjp,hks] at hr
 refine zfn fun H hH hG1 hG2 hQ1 hQ2=>?_
 have hH0:=hH ((0,600),bbx 601 602) (by simp)
 have hH1:=hH ((0,601),lvr t.lv) (by simp)
 have hH2:=hH ((0,602),fwr t.fo) (by simp)
 refine z7k Tryz.func105 (by kernel_rfl) rfl (by simp) ?_
 dsimp only[Tryz.f105]
 refine z3x 600 0 600 hH0 ?_
 refine z2w 601 0 601 (z10 hH1 (by simp)) rfl rfl ?_
 refine z2w 602 0 602 (z10 (z10 hH2 (by simp)) (by simp)) rfl rfl ?_
 refine z8k 100601 rfl ?_
 refine z8k 100602 rfl ?_
 repeat' (first|(apply z08;(first|refine zox hr rfl rfl rfl (by decide) rfl rfl rfl (by decide) rfl rfl rfl rfl ?_|refine z0o ?_| (apply z0a;(first|refine z02 z2q rfl rfl ?_| refine z02 z1k rfl rfl ?_))|(apply z0e;(refine z02 z0t rfl rfl ?_))|(apply z13;(first|refine z02 (z1o rfl) rfl rfl ?_| refine z02 (z1t rfl) rfl rfl ?_))|(apply z0d;(refine z29 ?_))|(apply z0g;(refine z0b z1f ?_))|(apply z1s;(refine z0b (z5v rfl rfl (by decide)) ?_))|(apply z1b;(refine z2k ?_))))|(apply z07;(first|refine z0m ?_|apply z09))|(apply z05;(first|apply z06|apply z00|apply z04|apply z01|apply z03|refine z0f (fun _=>?_) (fun _=>?_))))
 all_goals exact zD47
abbrev tb0:Tb:=⟨[],[]⟩
abbrev ofB (e:Rx):Blk:=tbx (bd e tb0).1.lv (bd e tb0).2.f (bd e tb0).2.l (bd e tb0).1.fo (bd e tb0).2.nu
theorem y7u (e:Rx) (hk:zjp 105 [.d (Drx e)] tb0 (bd e tb0)) (H:Hf):Ab.Spec Tryz.prog 57 [.d (Drx e)] H (fun r H'=>r=.new (ofB e)∧H'=H):=by
 dsimp only[ofB]
 generalize hB:bd e tb0=r1 at *
 obtain⟨⟨lv,fo⟩,p⟩:=r1
 obtain⟨op,mn,mx,rs,ks⟩:=e
 rw[zdk] at hk ⊢
 dsimp only[zjp,hks] at hk
 refine z0k Tryz.func57 (by kernel_rfl) rfl (by simp) ?_
 dsimp only[Tryz.f57]
 repeat' (first|(apply z08;(first|refine zox hk rfl rfl rfl (by decide) rfl rfl rfl (by decide) rfl rfl rfl rfl ?_|refine z0o ?_| (apply z0a;(refine z02 z2m rfl rfl ?_))|(apply z0d;(refine z29 ?_))|(apply z0g;(refine z0b z1f ?_))|(apply z1s;(first|(refine z0b z3k ?_;refine zfu 6 600 rfl rfl ?_;refine zf9 600 0 601 41 1 rfl rfl rfl rfl ?_;refine zf9 600 3 602 76 1 rfl rfl rfl rfl ?_)|refine z0b (z5v rfl rfl (by decide)) ?_))|(apply z1b;(refine z2k ?_))))|(apply z07;(first|refine z0m ?_|apply z09))|(apply z05;(first|apply z06|apply z00|apply z2c))|(apply z2d;(first|(apply z0u;refine z1h mix ?_)|refine z2e ?_| (apply z0l;(refine z0h z1k rfl rfl ?_))|(apply z11;(refine z0h z0t rfl rfl ?_))|(apply z1r;(refine z69 (by first|exact rfl|exact⟨_,rfl,rfl,rfl⟩) rfl rfl rfl rfl rfl rfl ?_)))))
 all_goals try (exfalso;omega)
 refine z1y 601 rfl ?_
 refine z1y 602 rfl ?_
 refine z0p Tryz.func57 _ (y0a (ms:=600) rfl rfl rfl rfl) ⟨rfl,rfl⟩
end Go.Proofs.YthdfkabdoidjfaaGreatDoor
