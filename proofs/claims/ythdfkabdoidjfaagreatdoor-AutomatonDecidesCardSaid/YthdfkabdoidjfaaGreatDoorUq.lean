/- A part of the proof: G22 to G28. -/
import Derived.Test.YthdfkabdoidjfaaGreatDoorUc
import Derived.Test.YthdfkabdoidjfaaGreatDoorUt
import Derived.Test.YthdfkabdoidjfaaGreatDoorUx
set_option linter.all false
namespace Go.Proofs.YthdfkabdoidjfaaGreatDoor
open Go.Ab Go.Rx
set_option maxHeartbeats 20000000
set_option maxRecDepth 100000
attribute [local irreducible] Run Ops Op1 z1d Val Tr z08 z13 NF Rel z2h z2g
abbrev n64 (x:Nat):List D:=[zxj (x:Nat)]
abbrev lvs (l:List (List Rg)):D:=.slice (l.map fun r=>[rgs r])
abbrev tbx (lv:List (List Rg)) (f l:Nat) (fo:List Nat) (nu:Bool):Blk:=.box [.d (lvs lv),I .u64 (f:Nat),I .u64 (l:Nat),.d (.slice (fo.map n64)),B nu]
theorem y11 {l:List Nat} {k:Nat} {x:Nat} (h:l[k]? =some x):(l.map n64)[((k:Nat):Int).toNat]? =some (n64 x):=by simp[h]
theorem zwk {X:Nat} (lv:List (List Rg)) (f l:Nat) (fo:List Nat) (nu:Bool) (S:Nat) (hS:S<2 ^ 64) (hfo:fo.length≤64) (hfx:∀ x∈fo,x<2 ^ 64) (beg:Bool) (e0:Nat) :
 z13 Tryz.prog 60 [.ptr (e0,X) 0,I .u64 (S:Nat),B beg] [((e0,X),tbx lv f l fo nu)] [] (I .u64 ((if beg=true then f else nxF S 0 0 fo:Nat):Int)):=by
 refine z1e fun H hH=>?_
 have hX:H e0 X=some (tbx lv f l fo nu):=hH ((e0,X),tbx lv f l fo nu) (by simp)
 refine z03 Tryz.func60 (by kernel_rfl) rfl (by simp) ?_
 dsimp only[Tryz.f60]
 cases beg with
 | true =>
  rw[zAz rfl]
  repeat' (first|(apply z1c;(refine z2m rfl hX rfl rfl rfl rfl (by decide) ?_))|refine stq ?_|fail)
  all_goals try (exfalso;omega)
  all_goals exact z05 Tryz.func60 _ z0e ⟨rfl,rfl⟩
 | false =>
  rw[zAy (by decide)]
  repeat' (first|(apply z1c;(refine z2m rfl hX rfl rfl rfl rfl (by decide) ?_))|refine stq ?_|fail)
  all_goals try (exfalso;omega)
  refine z0a ?_
  refine z00 (z0p (fun q:Nat × Nat=>⟨35,[(1,I .u64 (S:Nat)),(18,.d (.slice (fo.map n64))),(19,I .i64 fo.length),(20,I .i64 (q.1:Nat)),(7,I .u64 (q.2:Nat))],[],H⟩) (fun q=>q.1≤fo.length∧q.2<2 ^ 64∧nxF S q.1 q.2 (fo.drop q.1)=nxF S 0 0 fo) (fun q=>fo.length-q.1) ?_ (0,0) ⟨zAf _,by decide,rfl⟩) rfl rfl
  rintro⟨q,acc⟩ ⟨i1,i2,i3⟩ ih
  simp only at i1 i2 i3 ih ⊢
  by_cases hlt:q<fo.length
  · obtain⟨x,hx⟩:∃ x,fo[q]? =some x:=⟨_,zA0 hlt⟩
    have hxl:=hfx x (zA2 hx)
    rw[drop_cons hx,nxF] at i3
    have hb:=zv8 (i:=q) hS (by omega)
    have ho:=y4g i2 hxl
    by_cases ht:S.testBit q=true
    · rw[zAz ht] at i3 hb
      repeat' (first|(apply z01;(refine z04 (z0k (ys:=fo.map n64) rfl (y11 hx)) rfl rfl ?_))|(apply z11;(first|refine z04 (zbd (by omega)) rfl rfl ?_| refine z04 z6g rfl rfl ?_| refine z04 zht rfl rfl ?_))|refine stq ?_|refine fk (fun _=>?_) (fun _=>?_))
      all_goals try (exfalso;omega)
      all_goals (rw[ho];exact z00 (ih (q+1,acc ||| x) ⟨by simp only;omega,Nat.or_lt_two_pow i2 hxl,i3⟩ (by simp only;omega)) rfl rfl)
    · rw[zAy ht] at i3 hb
      repeat' (first|(apply z01;(refine z04 (z0k (ys:=fo.map n64) rfl (y11 hx)) rfl rfl ?_))|(apply z11;(first|refine z04 (zbd (by omega)) rfl rfl ?_| refine z04 z6g rfl rfl ?_| refine z04 zht rfl rfl ?_))|refine stq ?_|refine fk (fun _=>?_) (fun _=>?_))
      all_goals try (exfalso;omega)
      all_goals exact z00 (ih (q+1,acc) ⟨by simp only;omega,i2,i3⟩ (by simp only;omega)) rfl rfl
  · obtain rfl:q=fo.length:=by omega
    rw[zAs,nxF] at i3
    rw[← i3]
    repeat' (first|refine stq ?_|refine fk (fun _=>?_) (fun _=>?_))
    all_goals try (exfalso;omega)
    all_goals exact z05 Tryz.func60 _ z0e ⟨rfl,rfl⟩
abbrev bbx (Y Z:Nat):Blk:=.box [.ref (0,Y),I .u64 0,I .u64 0,.ref (0,Z),B false]
theorem zah (a b:Nat):∀ (l:List Nat) (i:Nat),(lnk a b i l).length=l.length
 | [],_=>rfl
 | x::l,i=>by rw[lnk,zAk,zAk,zah a b l]
theorem zaa (a b:Nat):∀ (l:List Nat) (i q:Nat) (x:Nat),l[q]? =some x→(lnk a b i l)[q]? =some (if a.testBit (i+q)=true then x ||| b else x)
 | y::l,i,0,x,h=>by simp at h;subst h;rw[lnk];simp
 | y::l,i,q+1,x,h=>by
  rw[List.getElem?_cons_succ] at h
  rw[lnk,List.getElem?_cons_succ,zaa a b l (i+1) q x h,show i+1+q=i+(q+1) by omega]
theorem zws {L fo:List Nat} {q v x:Nat} (hL:L[q]? =some v) (hx:fo[q]? =some x):(L.take q++fo.drop q).set q v=L.take (q+1)++fo.drop (q+1):=by
 have hq:=(zA1.1 hL).1
 have hl:(L.take q).length=q:=by rw[zAm];omega
 rw[drop_cons hx,z3n hL,zAl,List.set_append_right _ _ (by omega),hl,Nat.sub_self]
 rfl
theorem zqx {P:Program} {f:FuncId} {R:z2t} {k:List Item} {all:Array Oper} {l:List Oper} {n:Nat} {tm:List (Nat × PV)} {hp:Hp} {up:Hf} {ty:TypeId} {pos:String} {aft:Array Edge} {gd:Option (Nat × Bool)} {t e:TypeId} {ti:TI} {x y:Operand} {md ms kk i off:Nat} {p:PV} {ys ys':List (List D)} {z:List D} {ps:List PV} {ds:List D} [ht:z0m P t ti] (hev:St.evs ⟨n,tm,hp,up⟩ [x,y]=some [.rptr (md+1,ms) kk i off,p]) (hb:up md ms=some (.row e kk ys)) (hp':cellsOf p=some ps) (hds:z86 ps=some ds)
 (hz:ys[i]? =some z) (hs:ds.length=ti.size) (hf:decide (off+ds.length≤kk)=true) (hys:ys.set i (z0j z off ds)=ys') (h:Ops P f R all l k ⟨n,tm,hp,upd up (md,ms) (.row e kk ys')⟩):Op1 P f R all ⟨none,.store t x y,ty,pos,aft,gd⟩ l k ⟨n,tm,hp,up⟩ :=
 zli (m:=(md+1,ms)) hev hb hp' hds hz hs hf hys rfl h
theorem zy1 {X Y Z:Nat} (hXZ:X≠Z) (fo:List Nat) (a b:Nat) (ha:a<2 ^ 64) (hb:b<2 ^ 64) (hfo:fo.length≤64) (hfx:∀ x∈fo,x<2 ^ 64) (e0:Nat) :
 z13 Tryz.prog 125 [.ptr (e0,X) 0,I .u64 (a:Nat),I .u64 (b:Nat)] [((e0,X),bbx Y Z),((e0,Z),.row 76 1 (fo.map n64))] [((e0,Z),.row 76 1 ((lnk a b 0 fo).map n64))] (.tup []):=by
 refine z1e fun H hH=>?_
 have hX:H e0 X=some (bbx Y Z):=hH ((e0,X),bbx Y Z) (by simp)
 have hZ:H e0 Z=some (.row 76 1 (fo.map n64)):=hH ((e0,Z),.row 76 1 (fo.map n64)) (by simp)
 have hZ':H (0+e0) Z=some (.row 76 1 (fo.map n64)):=by rw[Nat.zero_add];exact hZ
 have hll:(lnk a b 0 fo).length=fo.length:=zah a b fo 0
 refine z03 Tryz.func125 (by kernel_rfl) rfl (by simp) ?_
 dsimp only[Tryz.f125]
 repeat' (first|(apply z1c;(refine z2m rfl hX rfl rfl rfl rfl (by decide) ?_))|(apply z15;(refine z04 (z0s rfl) rfl (bkN hZ') ?_))|refine stq ?_|fail)
 all_goals try (exfalso;omega)
 refine z0a ?_
 refine y3i (m:=(0+e0,Z)) hZ' ?_
 refine z00 (z0p (fun q:Nat=>⟨31,[(0,.ptr (e0+1,X) 0),(1,I .u64 (a:Nat)),(2,I .u64 (b:Nat)),(11,I .i64 fo.length),(12,I .i64 (q:Nat))],[],upd H (0+e0,Z) (.row 76 1 (((lnk a b 0 fo).take q++fo.drop q).map n64))⟩) (fun q=>q≤fo.length) (fun q=>fo.length-q) ?_ 0 (zAf _)) rfl rfl
 intro q i1 ih
 by_cases hlt:q<fo.length
 · obtain⟨x,hx⟩:∃ x,fo[q]? =some x:=⟨_,zA0 hlt⟩
   have hxl:=hfx x (zA2 hx)
   obtain⟨W,hW⟩:∃ W,(lnk a b 0 fo).take q++fo.drop q=W:=⟨_,rfl⟩
   have hWq:W[q]? =some x:=by rw[← hW,zAg (by rw[zAm];omega),zAm,hll,Nat.min_eq_left i1,Nat.sub_self,List.getElem?_drop];exact hx
   have hXW:upd H (0+e0,Z) (.row 76 1 (W.map n64)) e0 X=some (bbx Y Z):=z0q hX (by simp[hXZ])
   have hZW:upd H (0+e0,Z) (.row 76 1 (W.map n64)) (0+e0) Z=some (.row 76 1 (W.map n64)):=z1s _ _ _
   have hWl:W.length=fo.length:=by rw[← hW,zAa,zAm,List.length_drop,hll];omega
   rw[hW]
   have hbt:=zv8 (S:=a) (i:=q) ha (by omega)
   have hor:=y4g hxl hb
   have hLg:=zaa a b fo 0 q x hx
   rw[Nat.zero_add] at hLg
   have hst:=zws hLg hx
   rw[hW] at hst
   have ih':=ih (q+1) (by omega) (by omega)
   rw[← hst] at ih'
   have hys:(W.map n64).set ((q:Nat):Int).toNat [zxj (orV .u64 (x:Nat) (b:Nat))]=(W.set q (x ||| b)).map n64:=by rw[hor,zA9,List.map_set]
   have hidx:(W.map n64)[((q:Nat):Int).toNat]? =some (n64 x):=y11 hWq
   by_cases ht:a.testBit q=true
   · rw[zAz ht] at hbt ih'
     repeat' (first|(apply z1c;(first|refine z04 (zfr hidx rfl rfl rfl) rfl (bkN hZW) ?_| refine z2m rfl hXW rfl rfl rfl rfl (by decide) ?_))|(apply z01;(refine z04 (z10 rfl (by rw[zA4];omega)) rfl (bkN hZW) ?_))|(apply z11;(first|refine z04 (zbd (by omega)) rfl rfl ?_| refine z04 z6g rfl rfl ?_| refine z04 zht rfl rfl ?_))|(apply z0n;(refine zqx (md:=0+e0) (ms:=Z) rfl hZW rfl rfl hidx rfl rfl hys ?_))|refine stq ?_|refine fk (fun _=>?_) (fun _=>?_))
     all_goals try (exfalso;omega)
     all_goals (rw[z3e];exact z00 ih' rfl rfl)
   · rw[zAy ht] at hbt ih'
     have hid:W.set q x=W:=by
      obtain⟨g1,g2⟩:=zA1.1 hWq
      rw[← g2];exact List.set_getElem_self g1
     rw[hid] at ih'
     repeat' (first|(apply z11;(first|refine z04 (zbd (by omega)) rfl rfl ?_| refine z04 z6g rfl rfl ?_))|refine stq ?_|refine fk (fun _=>?_) (fun _=>?_))
     all_goals exact zD8
 · obtain rfl:q=fo.length:=by omega
   rw[zAs,List.append_nil,← hll,List.take_length]
   repeat' (first|refine stq ?_|refine fk (fun _=>?_) (fun _=>?_))
   all_goals try (exfalso;omega)
   all_goals exact zc4 Tryz.func125 _ (z27 rfl) ⟨rfl,by rw[Nat.zero_add];rfl⟩
theorem zkn {P:Program} {f:FuncId} {R:z2t} {k:List Item} {all:Array Oper} {l:List Oper} {n:Nat} {tm:List (Nat × PV)} {hp:Hp} {up:Hf} {d:Nat} {ty:TypeId} {pos:String} {aft:Array Edge} {gd:Option (Nat × Bool)} {p:PV} {g:FuncId} {args:List Operand} {ps:List PV} {ats:Array TypeId} {md m1 m2:Nat} {b1 b2 b':Blk}
 (hsp:z13 P g ps [((md+1,m1),b1),((md+1,m2),b2)] [((md+1,m2),b')] p) (hev:St.evs ⟨n,tm,hp,up⟩ args=some ps) (h1:up md m1=some b1) (h2:up md m2=some b2) (hd:d<n)
 (h:Ops P f R all l k ⟨n,(d,p)::tm,hp,upd up (md,m2) b'⟩):Op1 P f R all ⟨some d,.call ⟨.value (.func g),args.toArray,ats⟩,ty,pos,aft,gd⟩ l k ⟨n,tm,hp,up⟩ :=
 zjg hsp hev (z2i (m:=(md+1,m1)) h1 (z2i (m:=(md+1,m2)) h2 zxl)) hd rfl h
abbrev ptc (p:Pt):List D:=[zxj (p.f:Nat),zxj (p.l:Nat),z7a p.nu]
theorem y3f {X Y Z:Nat} (hXZ:X≠Z) (fo:List Nat) (a b:Pt) (ha1:a.f<2 ^ 64) (ha2:a.l<2 ^ 64) (hb1:b.f<2 ^ 64) (hb2:b.l<2 ^ 64) (hfo:fo.length≤64) (hfx:∀ x∈fo,x<2 ^ 64) (lv:List (List Rg)) (e0:Nat) :
 z13 Tryz.prog 119 [.ptr (e0,X) 0,.d (.agg (ptc a)),.d (.agg (ptc b))] [((e0,X),bbx Y Z),((e0,Z),.row 76 1 (fo.map n64))] [((e0,Z),.row 76 1 ((lnk a.l b.f 0 fo).map n64))] (.d (.agg (ptc (zbl a b ⟨lv,fo⟩).2))):=by
 refine z1e fun H hH=>?_
 have hX:H e0 X=some (bbx Y Z):=hH ((e0,X),bbx Y Z) (by simp)
 have hZ:H e0 Z=some (.row 76 1 (fo.map n64)):=hH ((e0,Z),.row 76 1 (fo.map n64)) (by simp)
 have hl:=zy1 (X:=X) (Y:=Y) (Z:=Z) hXZ fo a.l b.f ha2 hb1 hfo hfx (e0+1)
 have ho1:=y4g ha1 hb1
 have ho2:=y4g hb2 ha2
 obtain⟨af,al,an⟩:=a
 obtain⟨bf,bl,bn⟩:=b
 refine z03 Tryz.func119 (by kernel_rfl) rfl (by simp) ?_
 dsimp only[Tryz.f119,zbl]
 simp only at hl ho1 ho2
 cases an <;> cases bn <;> skip
 all_goals (try simp only[if_true,if_false,Bool.false_eq_true])
 all_goals (try rw[← ho1]) 
 all_goals (try rw[← ho2])
 · repeat' (first|(apply z06;(refine zkn hl rfl hX hZ (by decide) ?_))|refine stq ?_|fail)
   all_goals exact z05 Tryz.func119 _ (z39 rfl rfl rfl rfl rfl rfl) ⟨by first|rfl|(dsimp only[ptc];rw[← ho2];rfl)|(dsimp only[ptc];rw[← ho1];rfl)|(dsimp only[ptc];rw[← ho1,← ho2];rfl),rfl⟩
 · all_goals exact zD25
 · all_goals exact zD25
 · all_goals exact zD25
attribute [local irreducible] zb9
abbrev lv1 (r:List Rg):List D:=[rgs r]
abbrev lvr (lv:List (List Rg)):Blk:=.row 41 1 (lv.map lv1)
abbrev fwr (fo:List Nat):Blk:=.row 76 1 (fo.map n64)
abbrev bks (t:Tb):List (Nm × Blk):=[((0,600),bbx 601 602),((0,601),lvr t.lv),((0,602),fwr t.fo)]
abbrev hks (t:Tb):List (Nm × Blk):=[((0,600),.gone),((0,601),.gone),((0,602),.gone),((0,603),lvr t.lv),((0,604),fwr t.fo),((0,600),bbx 603 604)]
abbrev ziw (g:FuncId) (args:List PV) (t:Tb) (r:Tb × Pt):Prop:=zb9 Tryz.prog g (.ptr (0,600) 0::args) (bks t) (hks r.1) (.d (.agg (ptc r.2))) 603 604
theorem zc3 (op mn mx:Int) (rs:List Rg) (ks:List Rx):Drx (.mk op mn mx rs ks)=.agg (rx5 op mn mx rs ks):=congrArg D.agg (z3f op mn mx rs ks)
abbrev U3 (H:Hf):Hf:=upd (upd (upd H (0,600) .gone) (0,601) .gone) (0,602) .gone
abbrev ptb (p:Pt):Blk:=.box [.d (zxj (p.f:Nat)),.d (zxj (p.l:Nat)),.d (z7a p.nu)]
abbrev y8v (op mn mx:Int) (rs:List Rg) (c:List D):List D:=[z0u op,z0u mn,z0u mx,rgs rs,.slice [c]]
theorem zzy (op mn mx:Int) (rs:List Rg) (ok mk xk:Int) (rk:List Rg) (kk:List Rx):rx5 op mn mx rs [.mk ok mk xk rk kk]=y8v op mn mx rs (rx5 ok mk xk rk kk):=by
 show [z0u op,z0u mn,z0u mx,rgs rs,.slice [rxc (.mk ok mk xk rk kk)]]=_
 rw[z3f]
theorem zm7 (mn mx:Int) (rs:List Rg) (ks:List Rx) (t:Tb) (hs:Sm t) (hl:(t.lv.length:Int)+1≤64):ziw 105 [.d (Drx (.mk 1 mn mx rs ks))] t (bd (.mk 1 mn mx rs ks) t):=by
 rw[bd,zAz rfl,zc3]
 have hsh:=y55 (i:=t.lv.length) (by omega)
 have e1:(t.lv.map lv1).length=t.lv.length:=zA4 _
 have e2:=hs.len
 refine zf9 fun H hH hG1 hG2 hQ1 hQ2=>?_
 have hH0:=hH ((0,600),bbx 601 602) (by simp)
 have hH1:=hH ((0,601),lvr t.lv) (by simp)
 have hH2:=hH ((0,602),fwr t.fo) (by simp)
 refine z6a Tryz.func105 (by kernel_rfl) rfl (by simp) ?_
 dsimp only[Tryz.f105]
 refine z99 600 0 600 hH0 ?_
 refine z1o 601 0 601 (z0q hH1 (by simp)) rfl rfl ?_
 refine z1o 602 0 602 (z0q (z0q hH2 (by simp)) (by simp)) rfl rfl ?_
 refine z6x 100601 rfl ?_
 refine z6x 100602 rfl ?_
 repeat' (first | (apply z11; (refine z04 (zpv (by omega)) rfl rfl ?_)) | (apply z15; (first | refine z48 (g := n64) 0 rfl ?_| refine z04 (z8e rfl) rfl rfl ?_)) | (apply z43; (refine z55 (g := lv1) (by first | exact rfl | exact ⟨_, rfl, rfl, rfl⟩) rfl rfl rs rfl rfl rfl rfl rfl rfl rfl (by decide) (by omega) ?_)) | (apply z14; ((refine zx5 mix (by kernel_rfl) ?_) /- zeo -/)) | refine stq ?_ | fail)
 all_goals try (exfalso;omega)
 all_goals refine z7d 31 603 rfl (z0q (z0q (z0q hG1 (by simp)) (by simp)) (by simp)) (Or.inl rfl) rfl (Quiet.upd (Quiet.upd (Quiet.upd hQ1 rfl) rfl) rfl) ?_
 all_goals refine z7d 40 604 rfl (z0q (z0q (z0q (z0q hG2 (by simp)) (by simp)) (by simp)) (by simp)) (Or.inr rfl) rfl (Quiet.upd (Quiet.upd (Quiet.upd (Quiet.upd hQ2 rfl) rfl) rfl) rfl) ?_
 all_goals refine z3d (raw:=bbx 603 604) 600 0 600 ?_
 refine z05 Tryz.func105 _ (z39 rfl rfl rfl rfl rfl rfl) ⟨by dsimp only[ptc];rw[← hsh,← e1];rfl,rfl⟩
theorem zwn (op mn mx:Int) (rs:List Rg) (ks:List Rx) (h1:op≠1) (h2:op≠2) (h3:op≠3) (t:Tb) (r:Tb × Pt) (hr:ziw 120 [.d (Drx (.mk op mn mx rs ks))] t r):ziw 105 [.d (Drx (.mk op mn mx rs ks))] t r:=by
 rw[zc3] at hr ⊢
 dsimp only[ziw,hks] at hr
 refine zf9 fun H hH hG1 hG2 hQ1 hQ2=>?_
 have hH0:=hH ((0,600),bbx 601 602) (by simp)
 have hH1:=hH ((0,601),lvr t.lv) (by simp)
 have hH2:=hH ((0,602),fwr t.fo) (by simp)
 refine z6a Tryz.func105 (by kernel_rfl) rfl (by simp) ?_
 dsimp only[Tryz.f105]
 refine z99 600 0 600 hH0 ?_
 refine z1o 601 0 601 (z0q hH1 (by simp)) rfl rfl ?_
 refine z1o 602 0 602 (z0q (z0q hH2 (by simp)) (by simp)) rfl rfl ?_
 refine z6x 100601 rfl ?_
 refine z6x 100602 rfl ?_
 repeat' (first|(apply z0y;(refine zr2 hr rfl rfl rfl (by decide) rfl rfl rfl (by decide) rfl rfl rfl rfl ?_))|refine stq ?_|refine fk (fun _=>?_) (fun _=>?_))
 all_goals exact zD32
abbrev tb0:Tb:=⟨[],[]⟩
abbrev ofB (e:Rx):Blk:=tbx (bd e tb0).1.lv (bd e tb0).2.f (bd e tb0).2.l (bd e tb0).1.fo (bd e tb0).2.nu
theorem y95 (e:Rx) (hk:ziw 105 [.d (Drx e)] tb0 (bd e tb0)) (H:Hf):Ab.Spec Tryz.prog 57 [.d (Drx e)] H (fun r H'=>r=.new (ofB e)∧H'=H):=by
 dsimp only[ofB]
 generalize hB:bd e tb0=r1 at *
 obtain⟨⟨lv,fo⟩,p⟩:=r1
 obtain⟨op,mn,mx,rs,ks⟩:=e
 rw[zc3] at hk ⊢
 dsimp only[ziw,hks] at hk
 refine z03 Tryz.func57 (by kernel_rfl) rfl (by simp) ?_
 dsimp only[Tryz.f57]
 repeat' (first|(apply z0y;(refine zr2 hk rfl rfl rfl (by decide) rfl rfl rfl (by decide) rfl rfl rfl rfl ?_))|(apply z0w;((refine z07 z2b ?_;refine zen 6 600 rfl rfl ?_;refine zdq 600 0 601 41 1 rfl rfl rfl rfl ?_;refine zdq 600 3 602 76 1 rfl rfl rfl rfl ?_)))|refine stq ?_|fail)
 all_goals try (exfalso;omega)
 refine z0o 601 rfl ?_
 refine z0o 602 rfl ?_
 refine z05 Tryz.func57 _ (y1a (ms:=600) rfl rfl rfl rfl) ⟨rfl,rfl⟩
end Go.Proofs.YthdfkabdoidjfaaGreatDoor
