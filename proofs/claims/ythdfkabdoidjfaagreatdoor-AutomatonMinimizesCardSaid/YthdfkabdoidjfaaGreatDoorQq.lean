/- A part of the proof: G22, G23, G24, G25, G26, G27, G28. -/
import Derived.Test.YthdfkabdoidjfaaGreatDoorQt
import Derived.Test.YthdfkabdoidjfaaGreatDoorQc
import Derived.Test.YthdfkabdoidjfaaGreatDoorQx
set_option linter.all false
set_option linter.unusedVariables false
set_option linter.unusedSimpArgs false
namespace Go.Proofs.YthdfkabdoidjfaaGreatDoor
open Go.Ab Go.Rx
set_option maxHeartbeats 20000000
set_option maxRecDepth 100000
attribute [local irreducible] Run Ops Op1 z2b Val Tr z0v z2c NF Rel z3w z3x
abbrev n64 (x:Nat):List D:=[zue (x:Nat)]
abbrev lvs (l:List (List Rg)):D:=.slice (l.map fun r=>[rgs r])
abbrev tbx (lv:List (List Rg)) (f l:Nat) (fo:List Nat) (nu:Bool):Blk:=.box [.d (lvs lv),I .u64 (f:Nat),I .u64 (l:Nat),.d (.slice (fo.map n64)),B nu]
theorem zx4 {l:List Nat} {k:Nat} {x:Nat} (h:l[k]? =some x):(l.map n64)[((k:Nat):Int).toNat]? =some (n64 x):=by simp[h]
theorem zs7 {X:Nat} (lv:List (List Rg)) (f l:Nat) (fo:List Nat) (nu:Bool) (S:Nat) (hS:S<2 ^ 64) (hfo:fo.length≤64) (hfx:∀ x∈fo,x<2 ^ 64) (beg:Bool) (e0:Nat) :
 z2c Tryz.prog 60 [.ptr (e0,X) 0,I .u64 (S:Nat),B beg] [((e0,X),tbx lv f l fo nu)] [] (I .u64 ((if beg=true then f else nxF S 0 0 fo:Nat):Int)):=by
 refine z2n fun H hH=>?_
 have hX:H e0 X=some (tbx lv f l fo nu):=hH ((e0,X),tbx lv f l fo nu) (by simp)
 refine z0k Tryz.func60 (by kernel_rfl) rfl (by simp) ?_
 dsimp only[Tryz.f60]
 cases beg with
 | true =>
  rw[if_pos rfl]
  repeat' (first|(apply z05;(first|refine z0o ?_| (apply z09;(refine z3f rfl hX rfl rfl rfl rfl (by decide) ?_))|(apply z0d;(refine z02 z0i rfl rfl ?_))))|(apply z08;(first|refine z0n ?_|apply z07))|(apply z06;(first|apply z0a|apply z00|refine z1h ?_)))
  all_goals try (exfalso;omega)
  all_goals exact z0l Tryz.func60 _ z16 ⟨rfl,rfl⟩
 | false =>
  rw[if_neg (by decide)]
  repeat' (first|(apply z05;(first|refine z0o ?_| (apply z09;(refine z3f rfl hX rfl rfl rfl rfl (by decide) ?_))|(apply z0d;(refine z02 z0i rfl rfl ?_))|(apply z0t;(refine z02 (z1b rfl) rfl rfl ?_))))|(apply z08;(first|refine z0n ?_|apply z07))|(apply z06;(first|apply z0a|apply z00|refine z11 ?_| apply z04|apply z01)))
  all_goals try (exfalso;omega)
  refine z1a ?_
  refine z0e (z1y (fun q:Nat × Nat=>⟨35,[(1,I .u64 (S:Nat)),(18,.d (.slice (fo.map n64))),(19,I .i64 fo.length),(20,I .i64 (q.1:Nat)),(7,I .u64 (q.2:Nat))],[],H⟩) (fun q=>q.1≤fo.length∧q.2<2 ^ 64∧nxF S q.1 q.2 (fo.drop q.1)=nxF S 0 0 fo) (fun q=>fo.length-q.1) ?_ (0,0) ⟨Nat.zero_le _,by decide,rfl⟩) rfl rfl
  rintro⟨q,acc⟩ ⟨i1,i2,i3⟩ ih
  simp only at i1 i2 i3 ih ⊢
  by_cases hlt:q<fo.length
  · obtain⟨x,hx⟩:∃ x,fo[q]? =some x:=⟨_,List.getElem?_eq_getElem hlt⟩
    have hxl:=hfx x (List.mem_of_getElem? hx)
    rw[drop_cons hx,nxF] at i3
    have hb:=zsm (i:=q) hS (by omega)
    have ho:=y00 i2 hxl
    by_cases ht:S.testBit q=true
    · rw[if_pos ht] at i3 hb
      repeat' (first|(apply z05;(first|refine z0o ?_| (apply z09;(refine z02 z1p rfl rfl ?_))|(apply z0f;(refine z02 (z1i (ys:=fo.map n64) rfl (zx4 hx)) rfl rfl ?_))|(apply z0p;(first|refine z02 (zcg (by omega)) rfl rfl ?_| refine z02 z8n rfl rfl ?_| refine z02 zh1 rfl rfl ?_| refine z02 (z0q z1c) rfl rfl ?_))))|(apply z08;(first|refine z0n ?_|apply z07))|(apply z06;(first|apply z0a|apply z00|apply z04|apply z01|apply z03|refine z0g (fun _=>?_) (fun _=>?_)| refine z0j ?_)))
      all_goals try (exfalso;omega)
      all_goals (rw[ho];exact z0e (ih (q+1,acc ||| x) ⟨by simp only;omega,Nat.or_lt_two_pow i2 hxl,i3⟩ (by simp only;omega)) rfl rfl)
    · rw[if_neg ht] at i3 hb
      repeat' (first|(apply z05;(first|refine z0o ?_| (apply z09;(refine z02 z1p rfl rfl ?_))|(apply z0f;(refine z02 (z1i (ys:=fo.map n64) rfl (zx4 hx)) rfl rfl ?_))|(apply z0p;(first|refine z02 (zcg (by omega)) rfl rfl ?_| refine z02 z8n rfl rfl ?_| refine z02 zh1 rfl rfl ?_| refine z02 (z0q z1c) rfl rfl ?_))))|(apply z08;(first|refine z0n ?_|apply z07))|(apply z06;(first|apply z0a|apply z00|apply z04|apply z01|apply z03|refine z0g (fun _=>?_) (fun _=>?_)| refine z0j ?_)))
      all_goals try (exfalso;omega)
      all_goals exact z0e (ih (q+1,acc) ⟨by simp only;omega,i2,i3⟩ (by simp only;omega)) rfl rfl
  · obtain rfl:q=fo.length:=by omega
    rw[List.drop_length,nxF] at i3
    rw[← i3]
    repeat' (first|(apply z05;(refine z0o ?_))|(apply z08;(first|refine z0n ?_|apply z07))|(apply z06;(first|apply z0a|apply z00|apply z04|apply z01|refine z0g (fun _=>?_) (fun _=>?_)| refine z0j ?_)))
    all_goals try (exfalso;omega)
    all_goals exact z0l Tryz.func60 _ z16 ⟨rfl,rfl⟩
end Go.Proofs.YthdfkabdoidjfaaGreatDoor
namespace Go.Proofs.YthdfkabdoidjfaaGreatDoor
open Go.Ab Go.Rx
set_option maxHeartbeats 20000000
set_option maxRecDepth 100000
attribute [local irreducible] Run Ops Op1 z2b Val Tr z0v z2c NF Rel z3w z3x
abbrev bbx (Y Z:Nat):Blk:=.box [.ref (0,Y),I .u64 0,I .u64 0,.ref (0,Z),B false]
theorem zae (a b:Nat):∀ (l:List Nat) (i:Nat),(lnk a b i l).length=l.length
 | [],_=>rfl
 | x::l,i=>by rw[lnk,List.length_cons,List.length_cons,zae a b l]
theorem zaa (a b:Nat):∀ (l:List Nat) (i q:Nat) (x:Nat),l[q]? =some x→(lnk a b i l)[q]? =some (if a.testBit (i+q)=true then x ||| b else x)
 | y::l,i,0,x,h=>by simp at h;subst h;rw[lnk];simp
 | y::l,i,q+1,x,h=>by
  rw[List.getElem?_cons_succ] at h
  rw[lnk,List.getElem?_cons_succ,zaa a b l (i+1) q x h,show i+1+q=i+(q+1) by omega]
theorem zts {L fo:List Nat} {q v x:Nat} (hL:L[q]? =some v) (hx:fo[q]? =some x):(L.take q++fo.drop q).set q v=L.take (q+1)++fo.drop (q+1):=by
 have hq:=(List.getElem?_eq_some_iff.1 hL).1
 have hl:(L.take q).length=q:=by rw[List.length_take];omega
 rw[drop_cons hx,z5g hL,List.append_assoc,List.set_append_right _ _ (by omega),hl,Nat.sub_self]
 rfl
theorem zq1 {P:Program} {f:FuncId} {R:z3m} {k:List Item} {all:Array Oper} {l:List Oper} {n:Nat} {tm:List (Nat × PV)} {hp:Hp} {up:Hf} {ty:TypeId} {pos:String} {aft:Array Edge} {gd:Option (Nat × Bool)} {t e:TypeId} {ti:TI} {x y:Operand} {md ms kk i off:Nat} {p:PV} {ys ys':List (List D)} {z:List D} {ps:List PV} {ds:List D} [ht:z19 P t ti] (hev:St.evs ⟨n,tm,hp,up⟩ [x,y]=some [.rptr (md+1,ms) kk i off,p]) (hb:up md ms=some (.row e kk ys)) (hp':cellsOf p=some ps) (hds:z7e ps=some ds)
 (hz:ys[i]? =some z) (hs:ds.length=ti.size) (hf:decide (off+ds.length≤kk)=true) (hys:ys.set i (z13 z off ds)=ys') (h:Ops P f R all l k ⟨n,tm,hp,upd up (md,ms) (.row e kk ys')⟩):Op1 P f R all ⟨none,.store t x y,ty,pos,aft,gd⟩ l k ⟨n,tm,hp,up⟩ :=
 zk0 (m:=(md+1,ms)) hev hb hp' hds hz hs hf hys rfl h
theorem zu8 {X Y Z:Nat} (hXZ:X≠Z) (fo:List Nat) (a b:Nat) (ha:a<2 ^ 64) (hb:b<2 ^ 64) (hfo:fo.length≤64) (hfx:∀ x∈fo,x<2 ^ 64) (e0:Nat) :
 z2c Tryz.prog 125 [.ptr (e0,X) 0,I .u64 (a:Nat),I .u64 (b:Nat)] [((e0,X),bbx Y Z),((e0,Z),.row 76 1 (fo.map n64))] [((e0,Z),.row 76 1 ((lnk a b 0 fo).map n64))] (.tup []):=by
 refine z2n fun H hH=>?_
 have hX:H e0 X=some (bbx Y Z):=hH ((e0,X),bbx Y Z) (by simp)
 have hZ:H e0 Z=some (.row 76 1 (fo.map n64)):=hH ((e0,Z),.row 76 1 (fo.map n64)) (by simp)
 have hZ':H (0+e0) Z=some (.row 76 1 (fo.map n64)):=by rw[Nat.zero_add];exact hZ
 have hll:(lnk a b 0 fo).length=fo.length:=zae a b fo 0
 refine z0k Tryz.func125 (by kernel_rfl) rfl (by simp) ?_
 dsimp only[Tryz.f125]
 repeat' (first|(apply z05;(first|refine z0o ?_| (apply z09;(refine z3f rfl hX rfl rfl rfl rfl (by decide) ?_))|(apply z0d;(refine z02 z0i rfl rfl ?_))|(apply z0t;(refine z02 (z18 rfl) rfl (bkN hZ') ?_))))|(apply z08;(first|refine z0n ?_|apply z07))|(apply z06;(first|apply z0a|apply z00|apply z01)))
 all_goals try (exfalso;omega)
 refine z1a ?_
 refine y0z (m:=(0+e0,Z)) hZ' ?_
 refine z0e (z1y (fun q:Nat=>⟨31,[(0,.ptr (e0+1,X) 0),(1,I .u64 (a:Nat)),(2,I .u64 (b:Nat)),(11,I .i64 fo.length),(12,I .i64 (q:Nat))],[],upd H (0+e0,Z) (.row 76 1 (((lnk a b 0 fo).take q++fo.drop q).map n64))⟩) (fun q=>q≤fo.length) (fun q=>fo.length-q) ?_ 0 (Nat.zero_le _)) rfl rfl
 intro q i1 ih
 by_cases hlt:q<fo.length
 · obtain⟨x,hx⟩:∃ x,fo[q]? =some x:=⟨_,List.getElem?_eq_getElem hlt⟩
   have hxl:=hfx x (List.mem_of_getElem? hx)
   obtain⟨W,hW⟩:∃ W,(lnk a b 0 fo).take q++fo.drop q=W:=⟨_,rfl⟩
   have hWq:W[q]? =some x:=by rw[← hW,List.getElem?_append_right (by rw[List.length_take];omega),List.length_take,hll,Nat.min_eq_left i1,Nat.sub_self,List.getElem?_drop];exact hx
   have hXW:upd H (0+e0,Z) (.row 76 1 (W.map n64)) e0 X=some (bbx Y Z):=z1l hX (by simp[hXZ])
   have hZW:upd H (0+e0,Z) (.row 76 1 (W.map n64)) (0+e0) Z=some (.row 76 1 (W.map n64)):=z3q _ _ _
   have hWl:W.length=fo.length:=by rw[← hW,List.length_append,List.length_take,List.length_drop,hll];omega
   rw[hW]
   have hbt:=zsm (S:=a) (i:=q) ha (by omega)
   have hor:=y00 hxl hb
   have hLg:=zaa a b fo 0 q x hx
   rw[Nat.zero_add] at hLg
   have hst:=zts hLg hx
   rw[hW] at hst
   have ih':=ih (q+1) (by omega) (by omega)
   rw[← hst] at ih'
   have hys:(W.map n64).set ((q:Nat):Int).toNat [zue (orV .u64 (x:Nat) (b:Nat))]=(W.set q (x ||| b)).map n64:=by rw[hor,Int.toNat_natCast,List.map_set]
   have hidx:(W.map n64)[((q:Nat):Int).toNat]? =some (n64 x):=zx4 hWq
   by_cases ht:a.testBit q=true
   · rw[if_pos ht] at hbt ih'
     repeat' (first|(apply z05;(first|refine z0o ?_| (apply z09;(first|refine z02 (zql hidx rfl rfl rfl) rfl (bkN hZW) ?_| refine z3f rfl hXW rfl rfl rfl rfl (by decide) ?_))|(apply z0d;(refine z02 z0i rfl rfl ?_))|(apply z0f;(refine z02 (z1v rfl (by omega) (by rw[List.length_map];omega) rfl) rfl (bkN hZW) ?_))|(apply z0p;(first|refine z02 (zcg (by omega)) rfl rfl ?_| refine z02 z8n rfl rfl ?_| refine z02 zh1 rfl rfl ?_| refine z02 (z0q z1c) rfl rfl ?_))|(apply z0c;(refine zq1 (md:=0+e0) (ms:=Z) rfl hZW rfl rfl hidx rfl rfl hys ?_))))|(apply z08;(first|refine z0n ?_|apply z07))|(apply z06;(first|apply z0a|apply z00|apply z04|apply z01|apply z03|refine z0g (fun _=>?_) (fun _=>?_)| refine z0j ?_)))
     all_goals try (exfalso;omega)
     all_goals (rw[z43];exact z0e ih' rfl rfl)
   · rw[if_neg ht] at hbt ih'
     have hid:W.set q x=W:=by
      obtain⟨g1,g2⟩:=List.getElem?_eq_some_iff.1 hWq
      rw[← g2];exact List.set_getElem_self g1
     rw[hid] at ih'
     repeat' (first|(apply z05;(first|refine z0o ?_| (apply z0d;(refine z02 z0i rfl rfl ?_))|(apply z0p;(first|refine z02 (zcg (by omega)) rfl rfl ?_| refine z02 z8n rfl rfl ?_| refine z02 (z0q z1c) rfl rfl ?_))))|(apply z08;(first|refine z0n ?_|apply z07))|(apply z06;(first|apply z0a|apply z00|apply z04|apply z01|apply z03|refine z0g (fun _=>?_) (fun _=>?_)| refine z0j ?_)))
     all_goals try (exfalso;omega)
     all_goals exact z0e ih' rfl rfl
 · obtain rfl:q=fo.length:=by omega
   rw[List.drop_length,List.append_nil,← hll,List.take_length]
   repeat' (first|(apply z05;(refine z0o ?_))|(apply z08;(first|refine z0n ?_|apply z07))|(apply z06;(first|apply z0a|apply z00|apply z04|apply z01|refine z0g (fun _=>?_) (fun _=>?_)| refine z0j ?_)))
   all_goals try (exfalso;omega)
   all_goals exact zmw Tryz.func125 _ (z5t rfl) ⟨rfl,by rw[Nat.zero_add];rfl⟩
end Go.Proofs.YthdfkabdoidjfaaGreatDoor
namespace Go.Proofs.YthdfkabdoidjfaaGreatDoor
open Go.Ab Go.Rx
set_option maxHeartbeats 20000000
set_option maxRecDepth 100000
attribute [local irreducible] Run Ops Op1 z2b Val Tr z0v z2c NF Rel z3w z3x
theorem zko {P:Program} {f:FuncId} {R:z3m} {k:List Item} {all:Array Oper} {l:List Oper} {n:Nat} {tm:List (Nat × PV)} {hp:Hp} {up:Hf} {d:Nat} {ty:TypeId} {pos:String} {aft:Array Edge} {gd:Option (Nat × Bool)} {p:PV} {g:FuncId} {args:List Operand} {ps:List PV} {ats:Array TypeId} {md m1 m2:Nat} {b1 b2 b':Blk}
 (hsp:z2c P g ps [((md+1,m1),b1),((md+1,m2),b2)] [((md+1,m2),b')] p) (hev:St.evs ⟨n,tm,hp,up⟩ args=some ps) (h1:up md m1=some b1) (h2:up md m2=some b2) (hd:d<n)
 (h:Ops P f R all l k ⟨n,(d,p)::tm,hp,upd up (md,m2) b'⟩):Op1 P f R all ⟨some d,.call ⟨.value (.func g),args.toArray,ats⟩,ty,pos,aft,gd⟩ l k ⟨n,tm,hp,up⟩ :=
 zir hsp hev (z39 (m:=(md+1,m1)) h1 (z39 (m:=(md+1,m2)) h2 zuc)) hd rfl h
abbrev ptc (p:Pt):List D:=[zue (p.f:Nat),zue (p.l:Nat),z7l p.nu]
theorem zzs {X Y Z:Nat} (hXZ:X≠Z) (fo:List Nat) (a b:Pt) (ha1:a.f<2 ^ 64) (ha2:a.l<2 ^ 64) (hb1:b.f<2 ^ 64) (hb2:b.l<2 ^ 64) (hfo:fo.length≤64) (hfx:∀ x∈fo,x<2 ^ 64) (lv:List (List Rg)) (e0:Nat) :
 z2c Tryz.prog 119 [.ptr (e0,X) 0,.d (.agg (ptc a)),.d (.agg (ptc b))] [((e0,X),bbx Y Z),((e0,Z),.row 76 1 (fo.map n64))] [((e0,Z),.row 76 1 ((lnk a.l b.f 0 fo).map n64))] (.d (.agg (ptc (zbt a b ⟨lv,fo⟩).2))):=by
 refine z2n fun H hH=>?_
 have hX:H e0 X=some (bbx Y Z):=hH ((e0,X),bbx Y Z) (by simp)
 have hZ:H e0 Z=some (.row 76 1 (fo.map n64)):=hH ((e0,Z),.row 76 1 (fo.map n64)) (by simp)
 have hl:=zu8 (X:=X) (Y:=Y) (Z:=Z) hXZ fo a.l b.f ha2 hb1 hfo hfx (e0+1)
 have ho1:=y00 ha1 hb1
 have ho2:=y00 hb2 ha2
 obtain⟨af,al,an⟩:=a
 obtain⟨bf,bl,bn⟩:=b
 refine z0k Tryz.func119 (by kernel_rfl) rfl (by simp) ?_
 dsimp only[Tryz.f119,zbt]
 simp only at hl ho1 ho2
 cases an <;> cases bn <;> skip
 all_goals (try simp only[if_true,if_false,Bool.false_eq_true])
 all_goals (try rw[← ho1]) 
 all_goals (try rw[← ho2])
 · repeat' (first|(apply z05;(first|refine z0o ?_| (apply z09;(first|refine z02 z1d rfl rfl ?_| refine z02 z1z rfl rfl ?_))|(apply z0d;(refine z02 z0i rfl rfl ?_))|(apply z0u;(refine zko hl rfl hX hZ (by decide) ?_))|(apply z0c;(refine z23 ?_))|(apply z0h;(refine z0b z2i ?_))|(apply z1q;(refine z0b (z5o rfl rfl (by decide)) ?_))|(apply z0z;(refine z3s ?_))))|(apply z08;(first|refine z0n ?_|apply z07|refine z1r ?_))|(apply z06;(first|apply z0a|apply z00|refine z11 ?_| apply z04)))
   all_goals exact z0l Tryz.func119 _ (z3v rfl rfl rfl rfl rfl rfl) ⟨by first|rfl|(dsimp only[ptc];rw[← ho2];rfl)|(dsimp only[ptc];rw[← ho1];rfl)|(dsimp only[ptc];rw[← ho1,← ho2];rfl),rfl⟩
 · repeat' (first|(apply z05;(first|refine z0o ?_| (apply z09;(first|refine z02 z1d rfl rfl ?_| refine z02 z1z rfl rfl ?_))|(apply z0d;(refine z02 z0i rfl rfl ?_))|(apply z0p;(refine z02 zh1 rfl rfl ?_))|(apply z0u;(refine zko hl rfl hX hZ (by decide) ?_))|(apply z0c;(refine z23 ?_))|(apply z0h;(refine z0b z2i ?_))|(apply z1q;(refine z0b (z5o rfl rfl (by decide)) ?_))|(apply z0z;(refine z3s ?_))))|(apply z08;(first|refine z0n ?_|apply z07|refine z1r ?_))|(apply z06;(first|apply z0a|apply z00|refine z1h ?_| refine z11 ?_| apply z04)))
   all_goals exact z0l Tryz.func119 _ (z3v rfl rfl rfl rfl rfl rfl) ⟨by first|rfl|(dsimp only[ptc];rw[← ho2];rfl)|(dsimp only[ptc];rw[← ho1];rfl)|(dsimp only[ptc];rw[← ho1,← ho2];rfl),rfl⟩
 · repeat' (first|(apply z05;(first|refine z0o ?_| (apply z09;(first|refine z02 z1d rfl rfl ?_| refine z02 z1z rfl rfl ?_))|(apply z0d;(refine z02 z0i rfl rfl ?_))|(apply z0p;(refine z02 zh1 rfl rfl ?_))|(apply z0u;(refine zko hl rfl hX hZ (by decide) ?_))|(apply z0c;(refine z23 ?_))|(apply z0h;(refine z0b z2i ?_))|(apply z1q;(refine z0b (z5o rfl rfl (by decide)) ?_))|(apply z0z;(refine z3s ?_))))|(apply z08;(first|refine z0n ?_|apply z07))|(apply z06;(first|apply z0a|apply z00|refine z1h ?_| refine z11 ?_| apply z04)))
   all_goals exact z0l Tryz.func119 _ (z3v rfl rfl rfl rfl rfl rfl) ⟨by first|rfl|(dsimp only[ptc];rw[← ho2];rfl)|(dsimp only[ptc];rw[← ho1];rfl)|(dsimp only[ptc];rw[← ho1,← ho2];rfl),rfl⟩
 · repeat' (first|(apply z05;(first|refine z0o ?_| (apply z09;(first|refine z02 z1d rfl rfl ?_| refine z02 z1z rfl rfl ?_))|(apply z0d;(refine z02 z0i rfl rfl ?_))|(apply z0p;(refine z02 zh1 rfl rfl ?_))|(apply z0u;(refine zko hl rfl hX hZ (by decide) ?_))|(apply z0c;(refine z23 ?_))|(apply z0h;(refine z0b z2i ?_))|(apply z1q;(refine z0b (z5o rfl rfl (by decide)) ?_))|(apply z0z;(refine z3s ?_))))|(apply z08;(first|refine z0n ?_|apply z07))|(apply z06;(first|apply z0a|apply z00|refine z1h ?_)))
   all_goals exact z0l Tryz.func119 _ (z3v rfl rfl rfl rfl rfl rfl) ⟨by first|rfl|(dsimp only[ptc];rw[← ho2];rfl)|(dsimp only[ptc];rw[← ho1];rfl)|(dsimp only[ptc];rw[← ho1,← ho2];rfl),rfl⟩
end Go.Proofs.YthdfkabdoidjfaaGreatDoor
namespace Go.Proofs.YthdfkabdoidjfaaGreatDoor
open Go.Ab Go.Rx
set_option maxHeartbeats 20000000
set_option maxRecDepth 100000
attribute [local irreducible] Run Ops Op1 z2b Val Tr z0v z2c NF Rel z3w z3x ze4
abbrev lv1 (r:List Rg):List D:=[rgs r]
abbrev lvr (lv:List (List Rg)):Blk:=.row 41 1 (lv.map lv1)
abbrev fwr (fo:List Nat):Blk:=.row 76 1 (fo.map n64)
abbrev bks (t:Tb):List (Nm × Blk):=[((0,600),bbx 601 602),((0,601),lvr t.lv),((0,602),fwr t.fo)]
abbrev hks (t:Tb):List (Nm × Blk):=[((0,600),.gone),((0,601),.gone),((0,602),.gone),((0,603),lvr t.lv),((0,604),fwr t.fo),((0,600),bbx 603 604)]
abbrev zii (g:FuncId) (args:List PV) (t:Tb) (r:Tb × Pt):Prop:=ze4 Tryz.prog g (.ptr (0,600) 0::args) (bks t) (hks r.1) (.d (.agg (ptc r.2))) 603 604
theorem zcv (op mn mx:Int) (rs:List Rg) (ks:List Rx):Drx (.mk op mn mx rs ks)=.agg (rx5 op mn mx rs ks):=congrArg D.agg (z48 op mn mx rs ks)
end Go.Proofs.YthdfkabdoidjfaaGreatDoor
namespace Go.Proofs.YthdfkabdoidjfaaGreatDoor
open Go.Ab Go.Rx
set_option maxHeartbeats 20000000
set_option maxRecDepth 100000
attribute [local irreducible] Run Ops Op1 z2b Val Tr z0v z2c NF Rel z3w z3x ze4
abbrev U3 (H:Hf):Hf:=upd (upd (upd H (0,600) .gone) (0,601) .gone) (0,602) .gone
abbrev ptb (p:Pt):Blk:=.box [.d (zue (p.f:Nat)),.d (zue (p.l:Nat)),.d (z7l p.nu)]
abbrev y3o (op mn mx:Int) (rs:List Rg) (c:List D):List D:=[z1m op,z1m mn,z1m mx,rgs rs,.slice [c]]
theorem zw0 (op mn mx:Int) (rs:List Rg) (ok mk xk:Int) (rk:List Rg) (kk:List Rx):rx5 op mn mx rs [.mk ok mk xk rk kk]=y3o op mn mx rs (rx5 ok mk xk rk kk):=by
 show [z1m op,z1m mn,z1m mx,rgs rs,.slice [rxc (.mk ok mk xk rk kk)]]=_
 rw[z48]
end Go.Proofs.YthdfkabdoidjfaaGreatDoor
namespace Go.Proofs.YthdfkabdoidjfaaGreatDoor
open Go.Ab Go.Rx
set_option maxHeartbeats 20000000
set_option maxRecDepth 100000
attribute [local irreducible] Run Ops Op1 z2b Val Tr z0v z2c NF Rel z3w z3x ze4
theorem zka (mn mx:Int) (rs:List Rg) (ks:List Rx) (t:Tb) (hs:Sm t) (hl:(t.lv.length:Int)+1≤64):zii 105 [.d (Drx (.mk 1 mn mx rs ks))] t (bd (.mk 1 mn mx rs ks) t):=by
 rw[bd,if_pos rfl,zcv]
 have hsh:=y0d (i:=t.lv.length) (by omega)
 have e1:(t.lv.map lv1).length=t.lv.length:=List.length_map _
 have e2:=hs.len
 refine zef fun H hH hG1 hG2 hQ1 hQ2=>?_
 have hH0:=hH ((0,600),bbx 601 602) (by simp)
 have hH1:=hH ((0,601),lvr t.lv) (by simp)
 have hH2:=hH ((0,602),fwr t.fo) (by simp)
 refine z6j Tryz.func105 (by kernel_rfl) rfl (by simp) ?_
 dsimp only[Tryz.f105]
 refine z74 600 0 600 hH0 rfl rfl ?_
 refine z4g 601 0 601 (z1l hH1 (by simp)) rfl rfl ?_
 refine z4g 602 0 602 (z1l (z1l hH2 (by simp)) (by simp)) rfl rfl ?_
 refine z7x 100601 rfl ?_
 refine z7x 100602 rfl ?_
 repeat' (first | (apply z05; (first | refine z0o ?_| (apply z09; (refine z02 z1d rfl rfl ?_)) | (apply z0d; (refine z02 z0i rfl rfl ?_)) | (apply z0p; (refine z02 (zxz (by omega)) rfl rfl ?_)) | (apply z0t; (first | refine z2q (g := n64) 0 rfl ?_| refine z02 (zb1 rfl) rfl rfl ?_)) | (apply z0c; (refine z23 ?_)) | (apply z0h; (refine z0b z2i ?_)) | (apply z1q; (refine z0b (z5o rfl rfl (by decide)) ?_)) | (apply z0z; (refine z3s ?_)) | (apply z1w; (refine z29 rfl ?_)))) | (apply z08; (first | refine z0n ?_ | apply z07)) | (apply z06; (first | apply z0a | apply z00 | refine z1h ?_| apply z01 | apply z2p)) | (apply z2r; (first | refine z2s ?_| (apply z0r; (refine z0m z1d rfl rfl ?_)) | (apply z0s; (refine z0m z0i rfl rfl ?_)) | (apply z47; (refine z5y (g := lv1) (by first | exact rfl | exact ⟨_, rfl, rfl, rfl⟩) rfl rfl rs rfl rfl rfl rfl rfl rfl rfl (by decide) (by omega) ?_)) | (apply z36; ((refine zuk mix (by kernel_rfl) ?_) /- zia -/)) | (apply z5j; (refine z8u rfl ?_)))))
 all_goals try (exfalso;omega)
 all_goals refine z7m 31 603 rfl (z1l (z1l (z1l hG1 (by simp)) (by simp)) (by simp)) (Or.inl rfl) rfl (Quiet.upd (Quiet.upd (Quiet.upd hQ1 rfl) rfl) rfl) ?_
 all_goals refine z7m 40 604 rfl (z1l (z1l (z1l (z1l hG2 (by simp)) (by simp)) (by simp)) (by simp)) (Or.inr rfl) rfl (Quiet.upd (Quiet.upd (Quiet.upd (Quiet.upd hQ2 rfl) rfl) rfl) rfl) ?_
 all_goals refine z4z 600 0 600 (raw:=bbx 603 604) rfl rfl rfl rfl rfl ?_
 refine z0l Tryz.func105 _ (z3v rfl rfl rfl rfl rfl rfl) ⟨by dsimp only[ptc];rw[← hsh,← e1];rfl,rfl⟩
theorem zu1 (op mn mx:Int) (rs:List Rg) (ks:List Rx) (h1:op≠1) (h2:op≠2) (h3:op≠3) (t:Tb) (r:Tb × Pt) (hr:zii 120 [.d (Drx (.mk op mn mx rs ks))] t r):zii 105 [.d (Drx (.mk op mn mx rs ks))] t r:=by
 rw[zcv] at hr ⊢
 dsimp only[zii,hks] at hr
 refine zef fun H hH hG1 hG2 hQ1 hQ2=>?_
 have hH0:=hH ((0,600),bbx 601 602) (by simp)
 have hH1:=hH ((0,601),lvr t.lv) (by simp)
 have hH2:=hH ((0,602),fwr t.fo) (by simp)
 refine z6j Tryz.func105 (by kernel_rfl) rfl (by simp) ?_
 dsimp only[Tryz.f105]
 refine z74 600 0 600 hH0 rfl rfl ?_
 refine z4g 601 0 601 (z1l hH1 (by simp)) rfl rfl ?_
 refine z4g 602 0 602 (z1l (z1l hH2 (by simp)) (by simp)) rfl rfl ?_
 refine z7x 100601 rfl ?_
 refine z7x 100602 rfl ?_
 repeat' (first|(apply z05;(first|refine zp9 hr rfl rfl rfl (by decide) rfl rfl rfl (by decide) rfl rfl rfl rfl ?_|refine z0o ?_| (apply z09;(first|refine z02 z3t rfl rfl ?_| refine z02 z1d rfl rfl ?_))|(apply z0d;(refine z02 z0i rfl rfl ?_))|(apply z0t;(first|refine z02 (z1b rfl) rfl rfl ?_| refine z02 (z18 rfl) rfl rfl ?_))|(apply z0c;(refine z23 ?_))|(apply z0h;(refine z0b z2i ?_))|(apply z1q;(refine z0b (z5o rfl rfl (by decide)) ?_))|(apply z0z;(refine z3s ?_))))|(apply z08;(first|refine z0n ?_|apply z07))|(apply z06;(first|apply z0a|apply z00|apply z04|apply z01|apply z03|refine z0g (fun _=>?_) (fun _=>?_))))
 all_goals try (exfalso;omega)
 all_goals refine z7m 601 603 rfl (z1l (z1l (z1l hG1 (by simp)) (by simp)) (by simp)) (Or.inl rfl) rfl (Quiet.upd (Quiet.upd (Quiet.upd hQ1 rfl) rfl) rfl) ?_
 all_goals refine z7m 602 604 rfl (z1l (z1l (z1l (z1l hG2 (by simp)) (by simp)) (by simp)) (by simp)) (Or.inr rfl) rfl (Quiet.upd (Quiet.upd (Quiet.upd (Quiet.upd hQ2 rfl) rfl) rfl) rfl) ?_
 all_goals refine z4z 600 0 600 (raw:=bbx 603 604) rfl rfl rfl rfl rfl ?_
 all_goals refine z0l Tryz.func105 _ (z3v rfl rfl rfl rfl rfl rfl) ⟨rfl,rfl⟩
end Go.Proofs.YthdfkabdoidjfaaGreatDoor
namespace Go.Proofs.YthdfkabdoidjfaaGreatDoor
open Go.Ab Go.Rx
set_option maxHeartbeats 20000000
set_option maxRecDepth 100000
attribute [local irreducible] Run Ops Op1 z2b Val Tr z0v z2c NF Rel z3w z3x ze4
abbrev tb0:Tb:=⟨[],[]⟩
abbrev ofB (e:Rx):Blk:=tbx (bd e tb0).1.lv (bd e tb0).2.f (bd e tb0).2.l (bd e tb0).1.fo (bd e tb0).2.nu
theorem y45 (e:Rx) (hk:zii 105 [.d (Drx e)] tb0 (bd e tb0)) (H:Hf):Ab.Spec Tryz.prog 57 [.d (Drx e)] H (fun r H'=>r=.new (ofB e)∧H'=H):=by
 dsimp only[ofB]
 generalize hB:bd e tb0=r1 at *
 obtain⟨⟨lv,fo⟩,p⟩:=r1
 obtain⟨op,mn,mx,rs,ks⟩:=e
 rw[zcv] at hk ⊢
 dsimp only[zii,hks] at hk
 refine z0k Tryz.func57 (by kernel_rfl) rfl (by simp) ?_
 dsimp only[Tryz.f57]
 repeat' (first|(apply z05;(first|refine zp9 hk rfl rfl rfl (by decide) rfl rfl rfl (by decide) rfl rfl rfl rfl ?_|refine z0o ?_| (apply z09;(refine z02 z1z rfl rfl ?_))|(apply z0c;(refine z23 ?_))|(apply z0h;(refine z0b z2i ?_))|(apply z1q;(first|(refine z0b z25 ?_;refine zwb 6 600 rfl rfl ?_;refine ze7 600 0 601 41 1 rfl rfl rfl rfl ?_;refine ze7 600 3 602 76 1 rfl rfl rfl rfl ?_)|refine z0b (z5o rfl rfl (by decide)) ?_))|(apply z0z;(refine z3s ?_))))|(apply z08;(first|refine z0n ?_|apply z07))|(apply z06;(first|apply z0a|apply z00|apply z2p))|(apply z2r;(first|(apply z15;refine z1o mix ?_)|refine z2s ?_| (apply z0r;(refine z0m z1d rfl rfl ?_))|(apply z0s;(refine z0m z0i rfl rfl ?_))|(apply z36;(refine z5b (by first|exact rfl|exact⟨_,rfl,rfl,rfl⟩) rfl rfl rfl rfl rfl rfl ?_)))))
 all_goals try (exfalso;omega)
 refine z1g 601 rfl ?_
 refine z1g 602 rfl ?_
 refine z0l Tryz.func57 _ (zwr (ms:=600) rfl rfl rfl rfl) ⟨rfl,rfl⟩
end Go.Proofs.YthdfkabdoidjfaaGreatDoor
