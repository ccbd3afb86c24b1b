/- A part of the proof: A14 to A31. -/
import Derived.Test.YthdfkabdoidjfaaGreatDoorS3
import Derived.Test.YthdfkabdoidjfaaGreatDoorS4
import Derived.Test.YthdfkabdoidjfaaGreatDoorSv
set_option linter.all false
namespace Go.Proofs.YthdfkabdoidjfaaGreatDoor
open Go.Ab Go.Ax
set_option maxHeartbeats 20000000
set_option maxRecDepth 100000
attribute [local irreducible] Run Ops Op1 z25 Val Tr z0y z1x NF Rel z3j z3l
namespace XS
abbrev xK:Type:=Bool × Nat
abbrev xC (x:Bool × Nat):List D:=scc x
abbrev xP (x:Bool × Nat):PV:=scP x
abbrev xE (e:Go.Ax.Edge (Bool × Nat)):List D:=sed e
abbrev xM (ks:List (Bool × Nat)):Blk:=.mp ((z3v 0 ks).map fun p=>(ztr p.1,p.2))
abbrev xT:TypeId:=78
abbrev xF:FuncId:=58
abbrev xH:FuncId:=59
abbrev xA:List PV:=[.ptr (1,4) 0]
abbrev xB:List PV:=[.ptr (1,4) 0]
theorem xG:zh6 Tryz.prog 78 ztr:=y7g
theorem xW {a:Bool × Nat}:∀ β w own v,PR β w own (scP a) v→v=ztr a:=y7f
theorem xN:type_of% @Tryz.func63:=@Tryz.func63
end XS
open XS in
theorem znt (b1 b2:Blk) (ok:Bool × Nat→Prop) (fin:Bool × Nat→Bool) (edg:Bool × Nat→List (Go.Ax.Edge (Bool × Nat))) (first:Bool × Nat) (lim:Int) (hl0:1≤lim) (hl1:lim≤2000000) (hok0:ok first)
 (hfin:∀ k,ok k→z1x Tryz.prog 58 [scP k,.ptr (1,4) 0] [((1,4),b1),((1,14),b2)] [] (B (fin k))) (hedg:∀ k,ok k→z1x Tryz.prog 59 [scP k,.ptr (1,4) 0] [((1,4),b1),((1,14),b2)] [] (.d (.slice ((edg k).map sed)))) (hE:∀ k,ok k→edE (edg k)∧∀ e∈edg k,ok e.2.2)
 (H:Hf) (hb1:H 0 4=some b1) (hb2:H 0 14=some b2) :
 Ab.Spec Tryz.prog 63 [scP first,.fn (.func 58) [] [.ptr (0,4) 0],.fn (.func 59) [] [.ptr (0,4) 0],I .i64 lim] H (fun r H'=>r=.v (exR (exL fin edg lim.toNat (lim.toNat+1) 0 [first] ⟨[],[]⟩))∧H'=H):=by
 have hb:∀ (n:Nat) (tm:List (Nat × PV)) (hp:Hp),BkE ⟨n,tm,hp,H⟩ [((1,4),b1),((1,14),b2)]:=fun n tm hp=>by simp[BkE,z4v,push,hb1,hb2]
 refine z0k Tryz.func63 (by kernel_rfl) rfl (by simp) ?_
 dsimp only[Tryz.f63]
 repeat' (first|(apply z08;(first|refine zaw (by decide) rfl ?_|refine zgl (et:=3) (a:=first) (v:=z2t 0) (py:=scP first) (q:=([]:List ((Bool × Nat) × D))) (by kernel_rfl) y7g rfl rfl y7f rfl rfl rfl ?_|refine z0o ?_| (apply z0a;(refine z02 z2q rfl rfl ?_))|(apply z0g;(refine z0b z1f ?_))|(apply z1s;(refine z0b z3k ?_))|(apply z2i;(refine zex rfl rfl rfl rfl rfl rfl rfl rfl rfl (by decide) ?_))))|(apply z07;(first|refine z0m ?_|apply z09))|(apply z05;(first|apply z06|apply z00|apply z01)))
 refine z2o 24 1000 ?_
 refine z4i 10 0 1001 4 1 rfl rfl rfl rfl ?_
 refine z4i 10 1 1002 39 1 rfl rfl rfl rfl ?_
 generalize hres:exL fin edg lim.toNat (lim.toNat+1) 0 [first] ⟨[],[]⟩=res
 refine z19 ?_
 refine z0c (z1v (fun q:Nat × List (Bool × Nat) × Au=>⟨128,[(1,.fn (.func 58) [] [.ptr (1,4) 0]),(2,.fn (.func 59) [] [.ptr (1,4) 0]),(3,I .i64 lim),(8,.ptr (0,8) 0),(10,.ptr (0,10) 0),(11,.ref (0,20)),(12,.ref (0,1000)),(13,I .i64 (q.1:Nat))],[(20,mpS q.2.1),(1000,.row 78 2 (q.2.1.map scc)),(10,.box [.ref (0,1001),.ref (0,1002)]),(1001,.row 4 1 (q.2.2.F.map boc)),(1002,.row 39 1 (q.2.2.A.map z4u)),(8,.box [.d (.lit z48),.d (.lit z48)])],H⟩) (fun q=>q.1≤q.2.1.length∧1≤q.2.1.length∧q.2.1.length≤lim.toNat∧q.2.2.F.length=q.1∧q.2.2.A.length=q.1∧(∀ x∈q.2.1,ok x)∧exL fin edg lim.toNat (lim.toNat+1-q.1) q.1 q.2.1 q.2.2=res) (fun q=>lim.toNat+1-q.1) ?_ (0,[first],⟨[],[]⟩) ⟨zAf _,zAj _,by simp only[zAn];omega,rfl,rfl,fun x hx=>by rw[zAq] at hx;rw[hx];exact hok0,hres⟩) rfl rfl
 exact zD1
end Go.Proofs.YthdfkabdoidjfaaGreatDoor
namespace Go.Proofs.YthdfkabdoidjfaaGreatDoor
open Go.Ab Go.Ax Go.Rx
set_option maxHeartbeats 20000000
set_option maxRecDepth 100000
attribute [local irreducible] Run Ops Op1 z25 Val Tr z0y z1x NF Rel z3j z3l
section
variable (lv:List (List Rg)) (f l:Nat) (fo:List Nat) (nu:Bool)
abbrev bsC:List (Nm × Blk):=[((1,4),.box [.ptr (0,14) 0]),((1,14),tbx lv f l fo nu)]
theorem y0h (k:Bool × Nat) (hk:k.2<2 ^ 64) (hl:l<2 ^ 64):z1x Tryz.prog 58 [scP k,.ptr (1,4) 0] (bsC lv f l fo nu) [] (B ((k.1&&nu)||decide (k.2 &&& l≠0))):=by
 refine z22 fun H hH=>?_
 have h4:H 1 4=some (.box [.ptr (0,14) 0]):=hH ((1,4),.box [.ptr (0,14) 0]) (by simp)
 have h14:H 1 14=some (tbx lv f l fo nu):=hH ((1,14),tbx lv f l fo nu) (by simp)
 obtain⟨b,S⟩:=k
 have hfin:(!decide (zg5 .u64 (S:Nat) (l:Nat)=0))=decide (S &&& l≠0):=by
  rw[y3a hk hl,← decide_not]
  exact decide_eq_decide.2 (by rw[Ne,not_congr];exact_mod_cast Iff.rfl)
 simp only[← hfin]
 refine z0k Tryz.func58 (by kernel_rfl) rfl (by simp) ?_
 dsimp only[Tryz.f58]
 cases b <;> cases nu
 all_goals repeat' (first|(apply z08;(first|refine z0o ?_| (apply z1s;(refine z0b z3k ?_))))|(apply z07;(first|refine z0m ?_|apply z09))|(apply z05;(first|apply z06|apply z00|apply z2c))|(apply z2d;(first|(apply z0u;refine z1h mix ?_)|refine z1w ?_| refine z2e ?_| (apply z0l;(first|refine zbe (by first|exact rfl|exact⟨_,rfl,rfl,rfl⟩) rfl h14 rfl rfl rfl rfl (by decide) ?_|refine zbe (by first|exact rfl|exact⟨_,rfl,rfl,rfl⟩) rfl h4 rfl rfl rfl rfl (by decide) ?_|refine z0h z1k rfl rfl ?_))|(apply z11;(refine z0h z0t rfl rfl ?_))|(apply z1m;(refine z0h z7p rfl rfl ?_)))))
 all_goals exact z0p Tryz.func58 _ z1c ⟨rfl,rfl⟩
def za6 (N:Nat):Nat→List (List Rg)→List (List Rg)
 | _,[]=>[]
 | k,r::ls=>if N.testBit k=true then r::za6 N (k+1) ls else za6 N (k+1) ls
theorem zrx (N:Nat) {lv:List (List Rg)} {k:Nat} {r:List Rg} (hr:lv[k]? =some r):za6 N k (lv.drop k)=(if N.testBit k=true then [r] else [])++za6 N (k+1) (lv.drop (k+1)):=by
 obtain⟨h1,h2⟩:=zA1.1 hr
 rw[List.drop_eq_getElem_cons h1,h2,za6]
 split <;> simp
theorem zai (N:Nat):∀ (lv:List (List Rg)) (k:Nat),∀ r∈za6 N k lv,r∈lv
 | [],_,r,h=>by simp[za6] at h
 | x::ls,k,r,h=>by
  rw[za6] at h
  split at h
  · rcases zAc.1 h with rfl|h
    · simp
    · exact List.mem_cons_of_mem _ (zai N ls _ r h)
  · exact List.mem_cons_of_mem _ (zai N ls _ r h)
theorem znj (N:Nat):∀ (lv:List (List Rg)) (k:Nat),(za6 N k lv).length≤lv.length
 | [],_=>by simp[za6]
 | x::ls,k=>by
  have:=znj N ls (k+1)
  rw[za6];split <;> simp <;> omega
def nxN (f:Nat) (fo:List Nat) (k:Bool × Nat):Nat:=if k.1=true then f else nxF k.2 0 0 fo
def y1m (N:Nat) (lv:List (List Rg)) (c:Int):Nat:=rdF (fun c l=>inR l c) c N 0 0 lv
def cE (N:Nat) (lv:List (List Rg)) (pts:List Int) (i:Nat):Option (Go.Ax.Edge (Bool × Nat)) :=
 if y1m N lv (pts.getD i 0)=0 then none else some (pts.getD i 0,pts.getD (i+1) 0-1,(false,y1m N lv (pts.getD i 0)))
def zj3 (N:Nat) (lv:List (List Rg)):List Int:=z98 (za6 N 0 lv)
def zei (N:Nat) (lv:List (List Rg)):List (Go.Ax.Edge (Bool × Nat)):=(List.range ((zj3 N lv).length-1)).filterMap (cE N lv (zj3 N lv))
theorem y0z {M:Nat} (hS:zbv M) (hM:M≤200000000) (k:Bool × Nat) (hk:k.2<2 ^ 64) (hf:f<2 ^ 64) (hfo:fo.length=lv.length) (hl64:lv.length≤64) (hfx:∀ x∈fo,x<2 ^ 64) (hlr:∀ r∈lv,∀ x∈r,0≤x.1∧x.1≤1114111∧0≤x.2∧x.2≤1114111) (hln:∀ r∈lv,r.length≤200000000)
 (hsz:∀ N:Nat,(z5d (za6 N 0 lv)).length≤M) :
 z1x Tryz.prog 59 [scP k,.ptr (1,4) 0] (bsC lv f l fo nu) [] (.d (.slice ((zei (nxN f fo k) lv).map sed))):=by
 refine z22 fun H hH=>?_
 have h4:H 1 4=some (.box [.ptr (0,14) 0]):=hH ((1,4),.box [.ptr (0,14) 0]) (by simp)
 have h14:H 1 14=some (tbx lv f l fo nu):=hH ((1,14),tbx lv f l fo nu) (by simp)
 obtain⟨b,S⟩:=k
 have hnx:=zvi (X:=14) lv f l fo nu S hk (by omega) hfx b 2
 change z1x Tryz.prog 60 [.ptr (2,14) 0,I .u64 (S:Nat),B b] [((2,14),tbx lv f l fo nu)] [] (I .u64 ((nxN f fo (b,S):Nat):Int)) at hnx
 have hNl:nxN f fo (b,S)<2 ^ 64:=by
  rw[nxN]
  split
  · exact hf
  · exact zy2 S fo 0 0 (by decide) hfx
 generalize nxN f fo (b,S)=N at *
 have hrr:∀ r∈za6 N 0 lv,∀ x∈r,0≤x.1∧x.1≤1114111∧0≤x.2∧x.2≤1114111:=fun r hr=>hlr r (zai N lv 0 r hr)
 have hal:=znj N lv 0
 have hcuts:=zxu hS (za6 N 0 lv) (hsz N) hM hrr (by omega) (fun r hr=>hln r (zai N lv 0 r hr))
 have hpr:=za0 hrr
 have hpl:=zlf (za6 N 0 lv)
 have hpl2:(z98 (za6 N 0 lv)).length≤200000000:=by have:=zt1 (Go.Ax.srt (z5d (za6 N 0 lv)));rw[Go.Ax.zk9] at this;have:=hsz N;rw[z98];omega
 have hEq:zei N lv=(List.range ((zj3 N lv).length-1)).filterMap (cE N lv (zj3 N lv)):=rfl
 rw[hEq]
 change z0y Tryz.prog 61 [.d (lvs (za6 N 0 lv))] (.d (.slice ((zj3 N lv).map rcc))) at hcuts
 change ∀ z∈zj3 N lv,0≤z∧z≤1114112 at hpr
 change 1≤(zj3 N lv).length at hpl
 change (zj3 N lv).length≤200000000 at hpl2
 generalize zj3 N lv=pts at *
 clear hEq
 refine z0k Tryz.func59 (by kernel_rfl) rfl (by simp) ?_
 dsimp only[Tryz.f59]
 repeat' (first|(apply z08;(first|refine z0o ?_| (apply z0a;(first|refine z3q rfl h14 rfl rfl rfl rfl (by decide) ?_|refine z3q rfl h4 rfl rfl rfl rfl (by decide) ?_|refine z02 z1k rfl rfl ?_))|(apply z0e;(refine z02 z0t rfl rfl ?_))|(apply z13;(refine z02 (z1o rfl) rfl rfl ?_))|(apply z0q;(refine z39 hnx rfl (bkN h14) (by decide) ?_))|(apply z1s;(refine z0b z3k ?_))))|(apply z07;(first|refine z0m ?_|apply z09))|(apply z05;(first|apply z06|apply z00|apply z01)))
 all_goals try (exfalso;omega)
 refine z2s 5 1001 41 1 rfl rfl rfl ?_
 refine z19 ?_
 refine z0c (z1v (fun q:Nat × List (List Rg)=>⟨99,[(1,.ptr (2,4) 0),(2,.ptr (0,2) 0),(3,.d (.lit z48)),(4,I .u64 (N:Nat)),(5,.ref (0,1001)),(23,.d (lvs lv)),(24,I .i64 lv.length),(25,I .i64 (q.1:Nat))],[(1001,.row 41 1 (q.2.map fun r=>[rgs r]))],H⟩) (fun q=>q.1≤lv.length∧q.2.length≤q.1∧q.2++za6 N q.1 (lv.drop q.1)=za6 N 0 lv) (fun q=>lv.length-q.1) ?_ (0,[]) ⟨zAf _,zAj _,rfl⟩) rfl rfl
 rintro⟨i,acc⟩ ⟨i1,i2,i3⟩ ih
 simp only at i1 i2 i3 ih ⊢
 by_cases hlt:i<lv.length
 · obtain⟨r,hr⟩:∃ r,lv[i]? =some r:=⟨_,zA0 hlt⟩
   have hbt:=zup (S:=N) (i:=i) hNl (by omega)
   rw[zrx N hr] at i3
   by_cases htb:N.testBit i=true
   · rw[zAz htb] at hbt i3
     have ih':=ih (i+1,acc++[r]) ⟨by simp only;omega,by simp;omega,by simp only;rw[← i3,zAl]⟩ (by simp only;omega)
     repeat' (first|(apply z08;(first|refine z0o ?_| (apply z0a;(refine z02 z2l rfl rfl ?_))|(apply z0i;(refine z02 (z23 (ys:=lv.map fun r=>[rgs r]) rfl (idx (g:=fun r=>[rgs r]) hr)) rfl rfl ?_))|(apply z0r;(first|refine z02 (zc3 (by omega)) rfl rfl ?_| refine z02 z7p rfl rfl ?_| refine z02 (z0s z0w) rfl rfl ?_))|(apply z13;(refine z3t (g:=fun r:List Rg=>[rgs r]) r rfl ?_))|(apply z2i;(refine z2n rfl ?_))))|(apply z07;(first|refine z0m ?_|apply z09))|(apply z05;(first|apply z06|apply z00|apply z04|apply z01|apply z03|refine z0f (fun _=>?_) (fun _=>?_)| refine z0j ?_)))
     all_goals try (exfalso;omega)
     all_goals refine z2o 38 1001 ?_
     all_goals exact z0c ih' rfl rfl
   · rw[zAy htb] at hbt i3
     have ih':=ih (i+1,acc) ⟨by simp only;omega,by simp only;omega,by simp only;rw[← i3,List.nil_append]⟩ (by simp only;omega)
     repeat' (first|(apply z08;(first|refine z0o ?_| (apply z0a;(refine z02 z2l rfl rfl ?_))|(apply z0i;(refine z02 (z23 (ys:=lv.map fun r=>[rgs r]) rfl (idx (g:=fun r=>[rgs r]) hr)) rfl rfl ?_))|(apply z0r;(first|refine z02 (zc3 (by omega)) rfl rfl ?_| refine z02 z7p rfl rfl ?_| refine z02 (z0s z0w) rfl rfl ?_))|(apply z13;(refine z3t _ rfl ?_))|(apply z2i;(refine z2n rfl ?_))))|(apply z07;(first|refine z0m ?_|apply z09))|(apply z05;(first|apply z06|apply z00|apply z04|apply z01|apply z03|refine z0f (fun _=>?_) (fun _=>?_)| refine z0j ?_)))
     all_goals exact zD14
 · obtain rfl:i=lv.length:=by omega
   rw[zAs,za6,List.append_nil] at i3
   subst i3
   clear ih
   refine z1y 1001 rfl ?_
   repeat' (first|(apply z08;(first|refine z0o ?_| (apply z0r;(refine z02 (z1g z0w) rfl rfl ?_))|(apply z13;(refine z02 (z1o rfl) rfl rfl ?_))|(apply z0q;(refine z0z hcuts ?_))))|(apply z07;(first|refine z0m ?_|apply z09))|(apply z05;(first|apply z06|apply z00|apply z04|apply z01|refine z0f (fun _=>?_) (fun _=>?_)| refine z0j ?_)))
   all_goals try (exfalso;omega)
   refine z2s 8 1002 89 4 rfl rfl rfl ?_
   refine z19 ?_
   refine z0c (z1v (fun q:Nat=>⟨99,[(1,.ptr (2,4) 0),(3,.d (.lit z48)),(4,I .u64 (N:Nat)),(8,.ref (0,1002)),(9,.d (.slice (pts.map rcc))),(44,I .i64 ((pts.length:Int)-1)),(45,I .i64 (q:Nat))],[(1002,.row 89 4 (((List.range q).filterMap (cE N lv pts)).map sed))],H⟩) (fun q=>q≤pts.length-1) (fun q=>pts.length-1-q) ?_ 0 (zAf _)) rfl rfl
   intro i hi ih
   by_cases hlt2:i<pts.length-1
   · obtain⟨x,hx⟩:∃ x,pts[i]? =some x:=⟨_,zA0 (by omega)⟩
     obtain⟨y,hy⟩:∃ y,pts[i+1]? =some y:=⟨_,zA0 (by omega)⟩
     have hyi:pts[(((i:Nat):Int)+1).toNat]? =some y:=by rw[show (((i:Nat):Int)+1).toNat=i+1 by omega];exact hy
     have hxr:=hpr x (zA2 hx)
     have hyr:=hpr y (zA2 hy)
     have hfl:=z5p (cE N lv pts) (List.range i)
     rw[List.length_range] at hfl
     have ih':=ih (i+1) (by omega) (by omega)
     have hstep:(List.range (i+1)).filterMap (cE N lv pts)=(List.range i).filterMap (cE N lv pts)++(cE N lv pts i).toList:=by
      rw[List.range_succ,List.filterMap_append];simp[List.filterMap_cons];cases cE N lv pts i <;> rfl
     rw[hstep,cE,z45 hx,z45 hy] at ih'
     clear ih hstep
     generalize (List.range i).filterMap (cE N lv pts)=out at *
     obtain⟨m,hm⟩:∃ m,y1m N lv x=m:=⟨_,rfl⟩
     have hml:m<2 ^ 64:=by rw[← hm];exact zxc _ _ _ hl64 (by decide)
     rw[hm] at ih'
     rw[y1m] at hm
     repeat' (first|(apply z08;(first|refine z0o ?_| (apply z0a;(first|refine z3q rfl h14 rfl rfl rfl rfl (by decide) ?_|refine z3q rfl h4 rfl rfl rfl rfl (by decide) ?_))|(apply z0e;(refine z02 z0t rfl rfl ?_))|(apply z13;(refine z02 (z1o rfl) rfl rfl ?_))|(apply z0d;(refine z29 ?_))|(apply z0g;(refine z0b z1f ?_))|(apply z1b;(refine z2k ?_))))|(apply z07;(first|refine z0m ?_|apply z09))|(apply z05;(first|apply z06|apply z00|apply z04|apply z01|refine z0f (fun _=>?_) (fun _=>?_)| refine z0j ?_)))
     all_goals try (exfalso;first|omega|(simp at *;done))
     refine z19 ?_
     refine z0c (z1v (fun q:Nat × Nat=>⟨99,[(1,.ptr (2,4) 0),(3,.d (.lit z48)),(4,I .u64 (N:Nat)),(8,.ref (0,1002)),(9,.d (.slice (pts.map rcc))),(10,I .i64 (i:Nat)),(11,.ptr (0,11) 0),(44,I .i64 ((pts.length:Int)-1)),(45,I .i64 (i:Nat)),(52,.d (lvs lv)),(53,I .i64 lv.length),(54,I .i64 (q.1:Nat))],[(1002,.row 89 4 (out.map sed)),(11,.box [B false,I .u64 (q.2:Nat)])],H⟩) (fun q=>q.1≤lv.length∧q.2<2 ^ 64∧rdF (fun c l=>inR l c) x N q.1 q.2 (lv.drop q.1)=m) (fun q=>lv.length-q.1) ?_ (0,0) ⟨zAf _,by decide,hm⟩) rfl rfl
     rintro⟨k,B'⟩ ⟨n1,n2,n3⟩ ihn
     simp only at n1 n2 n3 ihn ⊢
     by_cases hk2:k<lv.length
     · obtain⟨r,hr⟩:∃ r,lv[k]? =some r:=⟨_,zA0 hk2⟩
       have hcl:=zki r (by have:=hln r (zA2 hr);omega) x
       rw[zw0 _ _ _ hr] at n3
       have hbt:=zup (S:=N) (i:=k) hNl (by omega)
       have hsh:=y3p (i:=k) (by omega)
       have hp2:2 ^ k<2 ^ 64:=Nat.pow_lt_pow_right (by decide) (by omega)
       have hor:=y2f n2 hp2
       rw[← hsh] at hor
       rw[y1h] at hcl
       by_cases htb:N.testBit k=true
       · rw[zAz htb] at hbt
         cases hin:inR r x with
         | true =>
          rw[zAz ⟨htb,hin⟩] at n3
          rw[hin] at hcl
          have ihn':=ihn (k+1,B' ||| 2 ^ k) ⟨by simp only;omega,Nat.or_lt_two_pow n2 hp2,n3⟩ (by simp only;omega)
          dsimp only at ihn'
          rw[← hor] at ihn'
          repeat' (first|(apply z08;(first|refine z0o ?_| (apply z0a;(first|refine z02 z1k rfl rfl ?_| refine z02 z2l rfl rfl ?_))|(apply z0e;(refine z02 z0t rfl rfl ?_))|(apply z0i;(first|refine z02 (z23 (ys:=lv.map fun r=>[rgs r]) rfl (idx (g:=fun r=>[rgs r]) hr)) rfl rfl ?_| refine z02 (z23 (ys:=pts.map rcc) rfl (idx (g:=rcc) hx)) rfl rfl ?_))|(apply z0r;(first|refine z02 (zc3 (by omega)) rfl rfl ?_| refine z02 z7p rfl rfl ?_| refine z02 (z0s z0w) rfl rfl ?_))|(apply z0q;(refine z0z hcl ?_))))|(apply z07;(first|refine z0m ?_|apply z09|refine z1u ?_| refine z2p (fun _=>?_) (fun _=>?_)))|(apply z05;(first|apply z06|apply z00|refine z1a ?_| refine z0v ?_| apply z04|apply z01|apply z2c|apply z03|refine z0f (fun _=>?_) (fun _=>?_)| refine z5c rfl (fun _=>?_) (fun _=>?_)|refine z0j ?_))|(apply z2d;(first|(apply z0u;refine z1h mix ?_)|refine z2e ?_| (apply z0l;(first|refine z0h z1k rfl rfl ?_| refine z0h z2l rfl rfl ?_))|(apply z11;(refine z0h z0t rfl rfl ?_))|(apply z0n;(first|refine z0h (z23 (ys:=pts.map rcc) rfl (idx (g:=rcc) hx)) rfl rfl ?_| refine z0h (z23 rfl (idx hy)) rfl rfl ?_))|(apply z1m;(first|refine z0h (zsh (by omega)) rfl rfl ?_| refine z0h zjc rfl rfl ?_| refine z0h (z0s z0w) rfl rfl ?_))|(apply z1r;(refine z69 (by first|exact rfl|exact⟨_,rfl,rfl,rfl⟩) rfl rfl rfl rfl rfl rfl ?_)))))
          all_goals exact zD120
         | false =>
          rw[zAy (fun h=>by rw[hin] at h;cases h.2)] at n3
          rw[hin] at hcl
          have ihn':=ihn (k+1,B') ⟨by simp only;omega,n2,n3⟩ (by simp only;omega)
          repeat' (first|(apply z08;(first|refine z0o ?_| (apply z0a;(first|refine z02 z1k rfl rfl ?_| refine z02 z2l rfl rfl ?_))|(apply z0e;(refine z02 z0t rfl rfl ?_))|(apply z0i;(first|refine z02 (z23 (ys:=lv.map fun r=>[rgs r]) rfl (idx (g:=fun r=>[rgs r]) hr)) rfl rfl ?_| refine z02 (z23 (ys:=pts.map rcc) rfl (idx (g:=rcc) hx)) rfl rfl ?_))|(apply z0r;(first|refine z02 (zc3 (by omega)) rfl rfl ?_| refine z02 z7p rfl rfl ?_| refine z02 (z0s z0w) rfl rfl ?_))|(apply z0q;(refine z0z hcl ?_))))|(apply z07;(first|refine z0m ?_|apply z09|refine z1u ?_| refine z2p (fun _=>?_) (fun _=>?_)))|(apply z05;(first|apply z06|apply z00|refine z0v ?_| apply z04|apply z01|apply z2c|apply z03|refine z0f (fun _=>?_) (fun _=>?_)| refine z5c rfl (fun _=>?_) (fun _=>?_)|refine z0j ?_))|(apply z2d;(first|refine z2e ?_| (apply z0l;(refine z0h z2l rfl rfl ?_))|(apply z0n;(first|refine z0h (z23 (ys:=pts.map rcc) rfl (idx (g:=rcc) hx)) rfl rfl ?_| refine z0h (z23 rfl (idx hy)) rfl rfl ?_))|(apply z1m;(refine z0h (z0s z0w) rfl rfl ?_)))))
          all_goals exact zD120
       · rw[zAy htb] at hbt
         rw[zAy (fun h=>htb h.1)] at n3
         have ihn':=ihn (k+1,B') ⟨by simp only;omega,n2,n3⟩ (by simp only;omega)
         repeat' (first|(apply z08;(first|refine z0o ?_| (apply z0a;(first|refine z02 z1k rfl rfl ?_| refine z02 z2l rfl rfl ?_))|(apply z0e;(refine z02 z0t rfl rfl ?_))|(apply z0i;(first|refine z02 (z23 (ys:=lv.map fun r=>[rgs r]) rfl (idx (g:=fun r=>[rgs r]) hr)) rfl rfl ?_| refine z02 (z23 (ys:=pts.map rcc) rfl (idx (g:=rcc) hx)) rfl rfl ?_))|(apply z0r;(first|refine z02 (zc3 (by omega)) rfl rfl ?_| refine z02 z7p rfl rfl ?_| refine z02 (z0s z0w) rfl rfl ?_))|(apply z0q;(refine z0z hcl ?_))))|(apply z07;(first|refine z0m ?_|apply z09|refine z1u ?_| refine z2p (fun _=>?_) (fun _=>?_)))|(apply z05;(first|apply z06|apply z00|refine z0v ?_| apply z04|apply z01|apply z2c|apply z03|refine z0f (fun _=>?_) (fun _=>?_)| refine z5c rfl (fun _=>?_) (fun _=>?_)|refine z9x rfl (fun _=>?_) (fun _=>?_)|refine z0j ?_))|(apply z2d;(first|(apply z0u;refine z1h mix ?_)|refine z2e ?_| (apply z0l;(first|refine z0h z1k rfl rfl ?_| refine z0h z2l rfl rfl ?_))|(apply z11;(refine z0h z0t rfl rfl ?_))|(apply z0n;(first|refine z0h (z23 (ys:=pts.map rcc) rfl (idx (g:=rcc) hx)) rfl rfl ?_| refine z0h (z23 rfl (idx hy)) rfl rfl ?_))|(apply z1m;(first|refine z0h (zsh (by omega)) rfl rfl ?_| refine z0h zjc rfl rfl ?_| refine z0h (z0s z0w) rfl rfl ?_))|(apply z1r;(refine z69 (by first|exact rfl|exact⟨_,rfl,rfl,rfl⟩) rfl rfl rfl rfl rfl rfl ?_)))))
         all_goals exact zD120
     · obtain rfl:k=lv.length:=by omega
       rw[zAs,rdF] at n3
       subst n3
       clear ihn
       by_cases hz:B'=0
       · subst hz
         rw[zAz rfl,Option.toList_none,List.append_nil] at ih'
         repeat' (first|(apply z08;(first|refine z0o ?_| (apply z0a;(refine z02 z1k rfl rfl ?_))|(apply z0e;(refine z02 z0t rfl rfl ?_))|(apply z0r;(refine z02 (z0s z0w) rfl rfl ?_))))|(apply z07;(first|refine z0m ?_|apply z09))|(apply z05;(first|apply z06|apply z00|refine z0v ?_| apply z04|apply z01|apply z03|refine z0f (fun _=>?_) (fun _=>?_)| refine z0j ?_)))
         all_goals exact zD27
       · have hzi:¬ ((B':Nat):Int)=0:=by omega
         rw[zAy hz,Option.toList_some] at ih'
         repeat' (first|(apply z08;(first|refine z0o ?_| (apply z0a;(refine z02 z1k rfl rfl ?_))|(apply z0e;(refine z02 z0t rfl rfl ?_))|(apply z0r;(refine z02 (z0s z0w) rfl rfl ?_))))|(apply z07;(first|refine z0m ?_|apply z09))|(apply z05;(first|apply z06|apply z00|apply z04|apply z01|apply z2c|apply z03|refine z0f (fun _=>?_) (fun _=>?_)| refine z5c rfl (fun _=>?_) (fun _=>?_)|refine z0j ?_))|(apply z2d;(first|(apply z0u;refine z1h mix ?_)|refine z2e ?_| (apply z0l;(first|refine z0h z2l rfl rfl ?_| refine z0h z2m rfl rfl ?_))|(apply z0n;(first|refine z0h (z23 (ys:=pts.map rcc) rfl (idx (g:=rcc) hx)) rfl rfl ?_| refine z0h (z23 (ys:=pts.map rcc) rfl (zgm (g:=rcc) hyi)) rfl rfl ?_))|(apply z1m;(first|refine z0h (z1g (zb9 (by omega) (by omega))) rfl rfl ?_| refine z0h (z0s z0w) rfl rfl ?_))|(apply z6u;(refine zbs (g:=sed) (by first|exact rfl|exact⟨_,rfl,rfl,rfl⟩) rfl rfl ((x,y-1,(false,B')):Go.Ax.Edge (Bool × Nat)) rfl rfl rfl rfl rfl rfl rfl (by decide) (by omega) ?_))|(apply zgr;(refine zl0 (by first|exact rfl|exact⟨_,rfl,rfl,rfl⟩) rfl rfl rfl rfl rfl rfl rfl (by decide) ?_))|(apply zal;(refine zfg rfl ?_)))))
         all_goals try (exfalso;first|omega|(simp at *;done))
         all_goals refine z2o 96 1002 ?_
         all_goals exact z0c ih' rfl rfl
   · obtain rfl:i=pts.length-1:=by omega
     clear ih
     repeat' (first|(apply z08;(first|refine z0o ?_| (apply z0d;(refine z29 ?_))|(apply z0g;(refine z0b z1f ?_))|(apply z1b;(refine z2k ?_))))|(apply z07;(first|refine z0m ?_|apply z09))|(apply z05;(first|apply z06|apply z00|apply z04|apply z01|refine z0f (fun _=>?_) (fun _=>?_)| refine z0j ?_)))
     all_goals try (exfalso;omega)
     all_goals refine z1y 1002 rfl ?_
     all_goals exact z0p Tryz.func59 _ z1c ⟨rfl,rfl⟩
end
theorem ziv {N:Nat} {lv:List (List Rg)} {e:Go.Ax.Edge (Bool × Nat)} (h:e∈zei N lv):∃ i x y,(zj3 N lv)[i]? =some x∧(zj3 N lv)[i+1]? =some y∧e=(x,y-1,(false,y1m N lv x))∧y1m N lv x≠0:=by
 rw[zei,List.mem_filterMap] at h
 obtain⟨i,hi,he⟩:=h
 rw[List.mem_range] at hi
 obtain⟨x,hx⟩:∃ x,(zj3 N lv)[i]? =some x:=⟨_,zA0 (by omega)⟩
 obtain⟨y,hy⟩:∃ y,(zj3 N lv)[i+1]? =some y:=⟨_,zA0 (by omega)⟩
 rw[cE,z45 hx,z45 hy] at he
 split at he
 · cases he
 · rename_i hu
   simp only[zAh] at he
   exact⟨i,x,y,hx,hy,he.symm,hu⟩
theorem zwg {N:Nat} {lv:List (List Rg)} (hl64:lv.length≤64) (hlr:∀ r∈lv,∀ x∈r,0≤x.1∧x.1≤1114111∧0≤x.2∧x.2≤1114111):edE (zei N lv)∧∀ e∈zei N lv,e.2.2.2<2 ^ 64:=by
 have hr:=za0 (L:=za6 N 0 lv) fun r h=>hlr r (zai N lv 0 r h)
 have hlt:=zrl (za6 N 0 lv)
 have hlen:=zk1 (B:=1114112) hlt (fun z hz=>by have:=hr z hz;omega)
 refine⟨⟨?_,fun e he=>?_⟩,fun e he=>?_⟩
 · have:=z5p (cE N lv (zj3 N lv)) (List.range ((zj3 N lv).length-1))
   rw[List.length_range] at this
   rw[zei];rw[zj3] at *;omega
 · obtain⟨i,x,y,hx,hy,rfl,_⟩:=ziv he
   exact zD64
 · obtain⟨i,x,y,hx,hy,rfl,_⟩:=ziv he
   simp only;exact zxc _ _ _ hl64 (by decide)
def zv3 (lv:List (List Rg)) (f l:Nat) (fo:List Nat) (nu:Bool):Option Au:=exL (fun k=>(k.1&&nu)||decide (k.2 &&& l≠0)) (fun k=>zei (nxN f fo k) lv) 256 257 0 [(true,0)] ⟨[],[]⟩
def zwi (e:Rx):Option Au:=zv3 (bd e tb0).1.lv (bd e tb0).2.f (bd e tb0).2.l (bd e tb0).1.fo (bd e tb0).2.nu
theorem zq8 {M:Nat} (hS:zbv M) (hM:M≤200000000) (e:Rx) (hf:fit e) (h0:val e=0) (hbd:zjp 105 [.d (Drx e)] tb0 (bd e tb0)) (hsm:(bd e tb0).1.fo.length=(bd e tb0).1.lv.length∧(bd e tb0).1.lv.length≤64∧(∀ x∈(bd e tb0).1.fo,x<2 ^ 64)∧(bd e tb0).2.f<2 ^ 64∧(bd e tb0).2.l<2 ^ 64) (hlr:∀ r∈(bd e tb0).1.lv,∀ x∈r,0≤x.1∧x.1≤1114111∧0≤x.2∧x.2≤1114111) (hln:∀ r∈(bd e tb0).1.lv,r.length≤200000000)
 (hsz:∀ N:Nat,(z5d (za6 N 0 (bd e tb0).1.lv)).length≤M):z0y Tryz.prog 33 [.d (Drx e)] (zww (zwi e)):=by
 refine z1p fun H=>?_
 have hval:=zes e hf
 have hof:=y7u e hbd
 clear hbd
 rw[h0] at hval
 rw[zwi]
 dsimp only[ofB] at hof
 generalize hB:bd e tb0=r1 at *
 obtain⟨t1,p⟩:=r1
 obtain⟨lv,fo⟩:=t1
 obtain⟨hfo,hl64,hfx,pf,pl⟩:=hsm
 simp only at hfo hl64 hfx pf pl hof hlr hln hsz ⊢
 obtain⟨f,l,nu⟩:=p
 simp only at pf pl hof ⊢
 have hex:z1x Tryz.prog 63 [scP (true,0),.fn (.func 58) [] [.ptr (0,4) 0],.fn (.func 59) [] [.ptr (0,4) 0],I .i64 256] [((0,4),.box [.ptr (0,14) 0]),((0,14),tbx lv f l fo nu)] [] (exR (zv3 lv f l fo nu)):=z22 fun H hH =>
  znt (.box [.ptr (0,14) 0]) (tbx lv f l fo nu) (fun k=>k.2<2 ^ 64) _ _ (true,0) 256 (by decide) (by decide) (by decide)
   (fun k hk=>y0h lv f l fo nu k hk pl) (fun k hk=>y0z lv f l fo nu hS hM k hk pf hfo hl64 hfx hlr hln hsz) (fun k hk=>zwg hl64 hlr) H (hH ((0,4),.box [.ptr (0,14) 0]) (by simp)) (hH ((0,14),tbx lv f l fo nu) (by simp))
 generalize zv3 lv f l fo nu=o at *
 obtain⟨op,mn,mx,rs,ks⟩:=e
 rw[zdk] at hval hof ⊢
 cases o with
 | some x =>
  simp only[exR] at hex
  simp only[zww]
  refine z0k Tryz.func33 (by kernel_rfl) rfl (by simp) ?_
  dsimp only[Tryz.f33]
  repeat' (first | (apply z08; (first | refine za9 rfl rfl (by decide) ?_ | refine z0o ?_| (apply z0a; (first | refine z02 z2q rfl rfl ?_| refine z02 z2m rfl rfl ?_)) | (apply z0q; (first | refine z39 hex rfl rfl (by decide) ?_ | refine z0z hval ?_| (refine zq3 rfl (hof _) (by decide) rfl (fun r H' h => ⟨_, h.1, h.2, rfl, rfl, ?_⟩)) /- zi1 -/)) | (apply z0d; (refine z29 ?_)) | (apply z0g; (refine z0b z1f ?_)) | (apply z1s; (refine z0b z3k ?_)) | (apply z1b; (refine z2k ?_)))) | (apply z07; (first | refine z0m ?_ | apply z09)) | (apply z05; (first | apply z06 | apply z00 | refine z0v ?_| apply z04)))
  all_goals exact zD106
 | none =>
  simp only[exR] at hex
  simp only[zww]
  refine z0k Tryz.func33 (by kernel_rfl) rfl (by simp) ?_
  dsimp only[Tryz.f33]
  repeat' (first | (apply z08; (first | refine za9 rfl rfl (by decide) ?_ | refine z0o ?_| (apply z0a; (refine z02 z2q rfl rfl ?_)) | (apply z0q; (first | refine z39 hex rfl rfl (by decide) ?_ | refine z0z hval ?_| (refine zq3 rfl (hof _) (by decide) rfl (fun r H' h => ⟨_, h.1, h.2, rfl, rfl, ?_⟩)) /- zi1 -/)) | (apply z0d; (refine z29 ?_)) | (apply z0g; (refine z0b z1f ?_)) | (apply z1s; (refine z0b z3k ?_)) | (apply z1b; (refine z2k ?_)))) | (apply z07; (first | refine z0m ?_ | apply z09)) | (apply z05; (first | apply z06 | apply z00 | refine z1a ?_| refine z0v ?_| apply z04)))
  all_goals exact zD106
end Go.Proofs.YthdfkabdoidjfaaGreatDoor
