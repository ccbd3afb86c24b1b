/- A part of the proof: A14 to A31. -/
import Derived.Test.YthdfkabdoidjfaaGreatDoorV3
import Derived.Test.YthdfkabdoidjfaaGreatDoorV4
import Derived.Test.YthdfkabdoidjfaaGreatDoorVv
set_option linter.all false
namespace Go.Proofs.YthdfkabdoidjfaaGreatDoor
open Go.Ab Go.Ax
set_option maxHeartbeats 20000000
set_option maxRecDepth 100000
attribute [local irreducible] Run Ops Op1 z2a Val Tr z0y z1x NF Rel z3i z3g
namespace XS
abbrev xK:Type:=Bool × Nat
abbrev xC (x:Bool × Nat):List D:=scc x
abbrev xP (x:Bool × Nat):PV:=scP x
abbrev xE (e:Go.Ax.Edge (Bool × Nat)):List D:=sed e
abbrev xM (ks:List (Bool × Nat)):Blk:=.mp ((z3x 0 ks).map fun p=>(zt3 p.1,p.2))
abbrev xT:TypeId:=78
abbrev xF:FuncId:=58
abbrev xH:FuncId:=59
abbrev xA:List PV:=[.ptr (1,4) 0]
abbrev xB:List PV:=[.ptr (1,4) 0]
theorem xG:zgw Tryz.prog 78 zt3:=y6g
theorem xW {a:Bool × Nat}:∀ β w own v,PR β w own (scP a) v→v=zt3 a:=y6b
theorem xN:type_of% @Tryz.func63:=@Tryz.func63
end XS
open XS in
theorem zne (b1 b2:Blk) (ok:Bool × Nat→Prop) (fin:Bool × Nat→Bool) (edg:Bool × Nat→List (Go.Ax.Edge (Bool × Nat))) (first:Bool × Nat) (lim:Int) (hl0:1≤lim) (hl1:lim≤2000000) (hok0:ok first)
 (hfin:∀ k,ok k→z1x Tryz.prog 58 [scP k,.ptr (1,4) 0] [((1,4),b1),((1,14),b2)] [] (B (fin k))) (hedg:∀ k,ok k→z1x Tryz.prog 59 [scP k,.ptr (1,4) 0] [((1,4),b1),((1,14),b2)] [] (.d (.slice ((edg k).map sed)))) (hE:∀ k,ok k→edE (edg k)∧∀ e∈edg k,ok e.2.2)
 (H:Hf) (hb1:H 0 4=some b1) (hb2:H 0 14=some b2) :
 Ab.Spec Tryz.prog 63 [scP first,.fn (.func 58) [] [.ptr (0,4) 0],.fn (.func 59) [] [.ptr (0,4) 0],I .i64 lim] H (fun r H'=>r=.v (exR (exL fin edg lim.toNat (lim.toNat+1) 0 [first] ⟨[],[]⟩))∧H'=H):=by
 have hb:∀ (n:Nat) (tm:List (Nat × PV)) (hp:Hp),BkE ⟨n,tm,hp,H⟩ [((1,4),b1),((1,14),b2)]:=fun n tm hp=>by simp[BkE,z4x,push,hb1,hb2]
 refine z0k Tryz.func63 (by kernel_rfl) rfl (by simp) ?_
 dsimp only[Tryz.f63]
 repeat' (first|(apply z07;(first|refine zaz (by decide) rfl ?_|refine zft (et:=3) (a:=first) (v:=z2w 0) (py:=scP first) (q:=([]:List ((Bool × Nat) × D))) (by kernel_rfl) y6g rfl rfl y6b rfl rfl rfl ?_|refine z0r ?_| (apply z0b;(refine z02 z2q rfl rfl ?_))|(apply z0g;(refine z0a z16 ?_))|(apply z1s;(refine z0a z3y ?_))|(apply z2o;(refine zet rfl rfl rfl rfl rfl rfl rfl rfl rfl (by decide) ?_))))|(apply z08;(first|refine z0p ?_|apply z09))|(apply z05;(first|apply z06|apply z00|apply z01)))
 refine z2p 24 1000 ?_
 refine z4m 10 0 1001 4 1 rfl rfl rfl rfl ?_
 refine z4m 10 1 1002 39 1 rfl rfl rfl rfl ?_
 generalize hres:exL fin edg lim.toNat (lim.toNat+1) 0 [first] ⟨[],[]⟩=res
 refine z1f ?_
 refine z0d (z25 (fun q:Nat × List (Bool × Nat) × Au=>⟨128,[(1,.fn (.func 58) [] [.ptr (1,4) 0]),(2,.fn (.func 59) [] [.ptr (1,4) 0]),(3,I .i64 lim),(8,.ptr (0,8) 0),(10,.ptr (0,10) 0),(11,.ref (0,20)),(12,.ref (0,1000)),(13,I .i64 (q.1:Nat))],[(20,mpS q.2.1),(1000,.row 78 2 (q.2.1.map scc)),(10,.box [.ref (0,1001),.ref (0,1002)]),(1001,.row 4 1 (q.2.2.F.map boc)),(1002,.row 39 1 (q.2.2.A.map z71)),(8,.box [.d (.lit z4d),.d (.lit z4d)])],H⟩) (fun q=>q.1≤q.2.1.length∧1≤q.2.1.length∧q.2.1.length≤lim.toNat∧q.2.2.F.length=q.1∧q.2.2.A.length=q.1∧(∀ x∈q.2.1,ok x)∧exL fin edg lim.toNat (lim.toNat+1-q.1) q.1 q.2.1 q.2.2=res) (fun q=>lim.toNat+1-q.1) ?_ (0,[first],⟨[],[]⟩) ⟨zAf _,zAj _,by simp only[zAn];omega,rfl,rfl,fun x hx=>by rw[zAq] at hx;rw[hx];exact hok0,hres⟩) rfl rfl
 exact zD1
end Go.Proofs.YthdfkabdoidjfaaGreatDoor
namespace Go.Proofs.YthdfkabdoidjfaaGreatDoor
open Go.Ab Go.Ax Go.Rx
set_option maxHeartbeats 20000000
set_option maxRecDepth 100000
attribute [local irreducible] Run Ops Op1 z2a Val Tr z0y z1x NF Rel z3i z3g
section
variable (lv:List (List Rg)) (f l:Nat) (fo:List Nat) (nu:Bool)
abbrev bsC:List (Nm × Blk):=[((1,4),.box [.ptr (0,14) 0]),((1,14),tbx lv f l fo nu)]
theorem zzi (k:Bool × Nat) (hk:k.2<2 ^ 64) (hl:l<2 ^ 64):z1x Tryz.prog 58 [scP k,.ptr (1,4) 0] (bsC lv f l fo nu) [] (B ((k.1&&nu)||decide (k.2 &&& l≠0))):=by
 refine z2f fun H hH=>?_
 have h4:H 1 4=some (.box [.ptr (0,14) 0]):=hH ((1,4),.box [.ptr (0,14) 0]) (by simp)
 have h14:H 1 14=some (tbx lv f l fo nu):=hH ((1,14),tbx lv f l fo nu) (by simp)
 obtain⟨b,S⟩:=k
 have hfin:(!decide (zec .u64 (S:Nat) (l:Nat)=0))=decide (S &&& l≠0):=by
  rw[zug hk hl,← decide_not]
  exact decide_eq_decide.2 (by rw[Ne,not_congr];exact_mod_cast Iff.rfl)
 simp only[← hfin]
 refine z0k Tryz.func58 (by kernel_rfl) rfl (by simp) ?_
 dsimp only[Tryz.f58]
 cases b <;> cases nu
 all_goals repeat' (first|(apply z07;(first|refine z0r ?_| (apply z1s;(refine z0a z3y ?_))))|(apply z08;(first|refine z0p ?_|apply z09))|(apply z05;(first|apply z06|apply z00|apply z2b))|(apply z2c;(first|(apply z0v;refine z1h mix ?_)|refine z27 ?_| refine z2e ?_| (apply z0j;(first|refine zau (by first|exact rfl|exact⟨_,rfl,rfl,rfl⟩) rfl h14 rfl rfl rfl rfl (by decide) ?_|refine zau (by first|exact rfl|exact⟨_,rfl,rfl,rfl⟩) rfl h4 rfl rfl rfl rfl (by decide) ?_|refine z0h z1i rfl rfl ?_))|(apply z0z;(refine z0h z0q rfl rfl ?_))|(apply z1m;(refine z0h z5h rfl rfl ?_)))))
 all_goals exact z0n Tryz.func58 _ z19 ⟨rfl,rfl⟩
def z7b (N:Nat):Nat→List (List Rg)→List (List Rg)
 | _,[]=>[]
 | k,r::ls=>if N.testBit k=true then r::z7b N (k+1) ls else z7b N (k+1) ls
theorem zsw (N:Nat) {lv:List (List Rg)} {k:Nat} {r:List Rg} (hr:lv[k]? =some r):z7b N k (lv.drop k)=(if N.testBit k=true then [r] else [])++z7b N (k+1) (lv.drop (k+1)):=by
 obtain⟨h1,h2⟩:=zA1.1 hr
 rw[List.drop_eq_getElem_cons h1,h2,z7b]
 split <;> simp
theorem z7p (N:Nat):∀ (lv:List (List Rg)) (k:Nat),∀ r∈z7b N k lv,r∈lv
 | [],_,r,h=>by simp[z7b] at h
 | x::ls,k,r,h=>by
  rw[z7b] at h
  split at h
  · rcases zAc.1 h with rfl|h
    · simp
    · exact List.mem_cons_of_mem _ (z7p N ls _ r h)
  · exact List.mem_cons_of_mem _ (z7p N ls _ r h)
theorem zgi (N:Nat):∀ (lv:List (List Rg)) (k:Nat),(z7b N k lv).length≤lv.length
 | [],_=>by simp[z7b]
 | x::ls,k=>by
  have:=zgi N ls (k+1)
  rw[z7b];split <;> simp <;> omega
def nxN (f:Nat) (fo:List Nat) (k:Bool × Nat):Nat:=if k.1=true then f else nxF k.2 0 0 fo
def zf6 (N:Nat) (lv:List (List Rg)) (c:Int):Nat:=rdF (fun c l=>inR l c) c N 0 0 lv
def cE (N:Nat) (lv:List (List Rg)) (pts:List Int) (i:Nat):Option (Go.Ax.Edge (Bool × Nat)) :=
 if zf6 N lv (pts.getD i 0)=0 then none else some (pts.getD i 0,pts.getD (i+1) 0-1,(false,zf6 N lv (pts.getD i 0)))
def zb4 (N:Nat) (lv:List (List Rg)):List Int:=z7z (z7b N 0 lv)
def z8f (N:Nat) (lv:List (List Rg)):List (Go.Ax.Edge (Bool × Nat)):=(List.range ((zb4 N lv).length-1)).filterMap (cE N lv (zb4 N lv))
theorem zze {M:Nat} (hS:zbt M) (hM:M≤200000000) (k:Bool × Nat) (hk:k.2<2 ^ 64) (hf:f<2 ^ 64) (hfo:fo.length=lv.length) (hl64:lv.length≤64) (hfx:∀ x∈fo,x<2 ^ 64) (hlr:∀ r∈lv,∀ x∈r,0≤x.1∧x.1≤1114111∧0≤x.2∧x.2≤1114111) (hln:∀ r∈lv,r.length≤200000000)
 (hsz:∀ N:Nat,(z4g (z7b N 0 lv)).length≤M) :
 z1x Tryz.prog 59 [scP k,.ptr (1,4) 0] (bsC lv f l fo nu) [] (.d (.slice ((z8f (nxN f fo k) lv).map sed))):=by
 refine z2f fun H hH=>?_
 have h4:H 1 4=some (.box [.ptr (0,14) 0]):=hH ((1,4),.box [.ptr (0,14) 0]) (by simp)
 have h14:H 1 14=some (tbx lv f l fo nu):=hH ((1,14),tbx lv f l fo nu) (by simp)
 obtain⟨b,S⟩:=k
 have hnx:=zly (X:=14) lv f l fo nu S hk (by omega) hfx b 2
 change z1x Tryz.prog 60 [.ptr (2,14) 0,I .u64 (S:Nat),B b] [((2,14),tbx lv f l fo nu)] [] (I .u64 ((nxN f fo (b,S):Nat):Int)) at hnx
 have hNl:nxN f fo (b,S)<2 ^ 64:=by
  rw[nxN]
  split
  · exact hf
  · exact zr4 S fo 0 0 (by decide) hfx
 generalize nxN f fo (b,S)=N at *
 have hrr:∀ r∈z7b N 0 lv,∀ x∈r,0≤x.1∧x.1≤1114111∧0≤x.2∧x.2≤1114111:=fun r hr=>hlr r (z7p N lv 0 r hr)
 have hal:=zgi N lv 0
 have hcuts:=zx7 hS (z7b N 0 lv) (hsz N) hM hrr (by omega) (fun r hr=>hln r (z7p N lv 0 r hr))
 have hpr:=z8r hrr
 have hpl:=zlc (z7b N 0 lv)
 have hpl2:(z7z (z7b N 0 lv)).length≤200000000:=by have:=zq0 (Go.Ax.srt (z4g (z7b N 0 lv)));rw[Go.Ax.zkg] at this;have:=hsz N;rw[z7z];omega
 have hEq:z8f N lv=(List.range ((zb4 N lv).length-1)).filterMap (cE N lv (zb4 N lv)):=rfl
 rw[hEq]
 change z0y Tryz.prog 61 [.d (lvs (z7b N 0 lv))] (.d (.slice ((zb4 N lv).map rcc))) at hcuts
 change ∀ z∈zb4 N lv,0≤z∧z≤1114112 at hpr
 change 1≤(zb4 N lv).length at hpl
 change (zb4 N lv).length≤200000000 at hpl2
 generalize zb4 N lv=pts at *
 clear hEq
 refine z0k Tryz.func59 (by kernel_rfl) rfl (by simp) ?_
 dsimp only[Tryz.f59]
 repeat' (first|(apply z07;(first|refine z0r ?_| (apply z0b;(first|refine z3s rfl h14 rfl rfl rfl rfl (by decide) ?_|refine z3s rfl h4 rfl rfl rfl rfl (by decide) ?_|refine z02 z1i rfl rfl ?_))|(apply z0e;(refine z02 z0q rfl rfl ?_))|(apply z11;(refine z02 (z1k rfl) rfl rfl ?_))|(apply z0s;(refine z3p hnx rfl (bkN h14) (by decide) ?_))|(apply z1s;(refine z0a z3y ?_))))|(apply z08;(first|refine z0p ?_|apply z09))|(apply z05;(first|apply z06|apply z00|apply z01)))
 all_goals try (exfalso;omega)
 refine z2x 5 1001 41 1 rfl rfl rfl ?_
 refine z1f ?_
 refine z0d (z25 (fun q:Nat × List (List Rg)=>⟨99,[(1,.ptr (2,4) 0),(2,.ptr (0,2) 0),(3,.d (.lit z4d)),(4,I .u64 (N:Nat)),(5,.ref (0,1001)),(23,.d (lvs lv)),(24,I .i64 lv.length),(25,I .i64 (q.1:Nat))],[(1001,.row 41 1 (q.2.map fun r=>[rgs r]))],H⟩) (fun q=>q.1≤lv.length∧q.2.length≤q.1∧q.2++z7b N q.1 (lv.drop q.1)=z7b N 0 lv) (fun q=>lv.length-q.1) ?_ (0,[]) ⟨zAf _,zAj _,rfl⟩) rfl rfl
 rintro⟨i,acc⟩ ⟨i1,i2,i3⟩ ih
 simp only at i1 i2 i3 ih ⊢
 by_cases hlt:i<lv.length
 · obtain⟨r,hr⟩:∃ r,lv[i]? =some r:=⟨_,zA0 hlt⟩
   have hbt:=zox (S:=N) (i:=i) hNl (by omega)
   rw[zsw N hr] at i3
   by_cases htb:N.testBit i=true
   · rw[zAz htb] at hbt i3
     have ih':=ih (i+1,acc++[r]) ⟨by simp only;omega,by simp;omega,by simp only;rw[← i3,zAl]⟩ (by simp only;omega)
     repeat' (first|(apply z07;(first|refine z0r ?_| (apply z0b;(refine z02 z2r rfl rfl ?_))|(apply z0m;(refine z02 (z1b (ys:=lv.map fun r=>[rgs r]) rfl (idx (g:=fun r=>[rgs r]) hr)) rfl rfl ?_))|(apply z0t;(first|refine z02 (z9b (by omega)) rfl rfl ?_| refine z02 z5h rfl rfl ?_| refine z02 (z0u z0x) rfl rfl ?_))|(apply z11;(refine z3w (g:=fun r:List Rg=>[rgs r]) r rfl ?_))|(apply z2o;(refine z2s rfl ?_))))|(apply z08;(first|refine z0p ?_|apply z09))|(apply z05;(first|apply z06|apply z00|apply z04|apply z01|apply z03|refine z0f (fun _=>?_) (fun _=>?_)| refine z0l ?_)))
     all_goals try (exfalso;omega)
     all_goals refine z2p 38 1001 ?_
     all_goals exact z0d ih' rfl rfl
   · rw[zAy htb] at hbt i3
     have ih':=ih (i+1,acc) ⟨by simp only;omega,by simp only;omega,by simp only;rw[← i3,List.nil_append]⟩ (by simp only;omega)
     repeat' (first|(apply z07;(first|refine z0r ?_| (apply z0b;(refine z02 z2r rfl rfl ?_))|(apply z0m;(refine z02 (z1b (ys:=lv.map fun r=>[rgs r]) rfl (idx (g:=fun r=>[rgs r]) hr)) rfl rfl ?_))|(apply z0t;(first|refine z02 (z9b (by omega)) rfl rfl ?_| refine z02 z5h rfl rfl ?_| refine z02 (z0u z0x) rfl rfl ?_))|(apply z11;(refine z3w _ rfl ?_))|(apply z2o;(refine z2s rfl ?_))))|(apply z08;(first|refine z0p ?_|apply z09))|(apply z05;(first|apply z06|apply z00|apply z04|apply z01|apply z03|refine z0f (fun _=>?_) (fun _=>?_)| refine z0l ?_)))
     all_goals exact zD18
 · obtain rfl:i=lv.length:=by omega
   rw[zAs,z7b,List.append_nil] at i3
   subst i3
   clear ih
   refine z2g 1001 rfl ?_
   repeat' (first|(apply z07;(first|refine z0r ?_| (apply z0t;(refine z02 (z1g z0x) rfl rfl ?_))|(apply z11;(refine z02 (z1k rfl) rfl rfl ?_))|(apply z0s;(refine z1w hcuts ?_))))|(apply z08;(first|refine z0p ?_|apply z09))|(apply z05;(first|apply z06|apply z00|apply z04|apply z01|refine z0f (fun _=>?_) (fun _=>?_)| refine z0l ?_)))
   all_goals try (exfalso;omega)
   refine z2x 8 1002 89 4 rfl rfl rfl ?_
   refine z1f ?_
   refine z0d (z25 (fun q:Nat=>⟨99,[(1,.ptr (2,4) 0),(3,.d (.lit z4d)),(4,I .u64 (N:Nat)),(8,.ref (0,1002)),(9,.d (.slice (pts.map rcc))),(44,I .i64 ((pts.length:Int)-1)),(45,I .i64 (q:Nat))],[(1002,.row 89 4 (((List.range q).filterMap (cE N lv pts)).map sed))],H⟩) (fun q=>q≤pts.length-1) (fun q=>pts.length-1-q) ?_ 0 (zAf _)) rfl rfl
   intro i hi ih
   by_cases hlt2:i<pts.length-1
   · obtain⟨x,hx⟩:∃ x,pts[i]? =some x:=⟨_,zA0 (by omega)⟩
     obtain⟨y,hy⟩:∃ y,pts[i+1]? =some y:=⟨_,zA0 (by omega)⟩
     have hyi:pts[(((i:Nat):Int)+1).toNat]? =some y:=by rw[show (((i:Nat):Int)+1).toNat=i+1 by omega];exact hy
     have hxr:=hpr x (zA2 hx)
     have hyr:=hpr y (zA2 hy)
     have hfl:=z5q (cE N lv pts) (List.range i)
     rw[List.length_range] at hfl
     have ih':=ih (i+1) (by omega) (by omega)
     have hstep:(List.range (i+1)).filterMap (cE N lv pts)=(List.range i).filterMap (cE N lv pts)++(cE N lv pts i).toList:=by
      rw[List.range_succ,List.filterMap_append];simp[List.filterMap_cons];cases cE N lv pts i <;> rfl
     rw[hstep,cE,z47 hx,z47 hy] at ih'
     clear ih hstep
     generalize (List.range i).filterMap (cE N lv pts)=out at *
     obtain⟨m,hm⟩:∃ m,zf6 N lv x=m:=⟨_,rfl⟩
     have hml:m<2 ^ 64:=by rw[← hm];exact zpx _ _ _ hl64 (by decide)
     rw[hm] at ih'
     rw[zf6] at hm
     repeat' (first|(apply z07;(first|refine z0r ?_| (apply z0b;(first|refine z3s rfl h14 rfl rfl rfl rfl (by decide) ?_|refine z3s rfl h4 rfl rfl rfl rfl (by decide) ?_))|(apply z0e;(refine z02 z0q rfl rfl ?_))|(apply z11;(refine z02 (z1k rfl) rfl rfl ?_))|(apply z0c;(refine z22 ?_))|(apply z0g;(refine z0a z16 ?_))|(apply z10;(refine z23 ?_))))|(apply z08;(first|refine z0p ?_|apply z09))|(apply z05;(first|apply z06|apply z00|apply z04|apply z01|refine z0f (fun _=>?_) (fun _=>?_)| refine z0l ?_)))
     all_goals try (exfalso;first|omega|(simp at *;done))
     refine z1f ?_
     refine z0d (z25 (fun q:Nat × Nat=>⟨99,[(1,.ptr (2,4) 0),(3,.d (.lit z4d)),(4,I .u64 (N:Nat)),(8,.ref (0,1002)),(9,.d (.slice (pts.map rcc))),(10,I .i64 (i:Nat)),(11,.ptr (0,11) 0),(44,I .i64 ((pts.length:Int)-1)),(45,I .i64 (i:Nat)),(52,.d (lvs lv)),(53,I .i64 lv.length),(54,I .i64 (q.1:Nat))],[(1002,.row 89 4 (out.map sed)),(11,.box [B false,I .u64 (q.2:Nat)])],H⟩) (fun q=>q.1≤lv.length∧q.2<2 ^ 64∧rdF (fun c l=>inR l c) x N q.1 q.2 (lv.drop q.1)=m) (fun q=>lv.length-q.1) ?_ (0,0) ⟨zAf _,by decide,hm⟩) rfl rfl
     rintro⟨k,B'⟩ ⟨n1,n2,n3⟩ ihn
     simp only at n1 n2 n3 ihn ⊢
     by_cases hk2:k<lv.length
     · obtain⟨r,hr⟩:∃ r,lv[k]? =some r:=⟨_,zA0 hk2⟩
       have hcl:=zkq r (by have:=hln r (zA2 hr);omega) x
       rw[zmt _ _ _ hr] at n3
       have hbt:=zox (S:=N) (i:=k) hNl (by omega)
       have hsh:=y02 (i:=k) (by omega)
       have hp2:2 ^ k<2 ^ 64:=Nat.pow_lt_pow_right (by decide) (by omega)
       have hor:=zwh n2 hp2
       rw[← hsh] at hor
       rw[zpo] at hcl
       by_cases htb:N.testBit k=true
       · rw[zAz htb] at hbt
         cases hin:inR r x with
         | true =>
          rw[zAz ⟨htb,hin⟩] at n3
          rw[hin] at hcl
          have ihn':=ihn (k+1,B' ||| 2 ^ k) ⟨by simp only;omega,Nat.or_lt_two_pow n2 hp2,n3⟩ (by simp only;omega)
          dsimp only at ihn'
          rw[← hor] at ihn'
          repeat' (first|(apply z07;(first|refine z0r ?_| (apply z0b;(first|refine z02 z1i rfl rfl ?_| refine z02 z2r rfl rfl ?_))|(apply z0e;(refine z02 z0q rfl rfl ?_))|(apply z0m;(first|refine z02 (z1b (ys:=lv.map fun r=>[rgs r]) rfl (idx (g:=fun r=>[rgs r]) hr)) rfl rfl ?_| refine z02 (z1b (ys:=pts.map rcc) rfl (idx (g:=rcc) hx)) rfl rfl ?_))|(apply z0t;(first|refine z02 (z9b (by omega)) rfl rfl ?_| refine z02 z5h rfl rfl ?_| refine z02 (z0u z0x) rfl rfl ?_))|(apply z0s;(refine z1w hcl ?_))))|(apply z08;(first|refine z0p ?_|apply z09|refine z1v ?_| refine z2n (fun _=>?_) (fun _=>?_)))|(apply z05;(first|apply z06|apply z00|refine z1c ?_| refine z0w ?_| apply z04|apply z01|apply z2b|apply z03|refine z0f (fun _=>?_) (fun _=>?_)| refine z5o rfl (fun _=>?_) (fun _=>?_)|refine z0l ?_))|(apply z2c;(first|(apply z0v;refine z1h mix ?_)|refine z2e ?_| (apply z0j;(first|refine z0h z1i rfl rfl ?_| refine z0h z2r rfl rfl ?_))|(apply z0z;(refine z0h z0q rfl rfl ?_))|(apply z0o;(first|refine z0h (z1b (ys:=pts.map rcc) rfl (idx (g:=rcc) hx)) rfl rfl ?_| refine z0h (z1b rfl (idx hy)) rfl rfl ?_))|(apply z1m;(first|refine z0h (zkf (by omega)) rfl rfl ?_| refine z0h zc2 rfl rfl ?_| refine z0h (z0u z0x) rfl rfl ?_))|(apply z1q;(refine z52 (by first|exact rfl|exact⟨_,rfl,rfl,rfl⟩) rfl rfl rfl rfl rfl rfl ?_)))))
          all_goals exact zD70
         | false =>
          rw[zAy (fun h=>by rw[hin] at h;cases h.2)] at n3
          rw[hin] at hcl
          have ihn':=ihn (k+1,B') ⟨by simp only;omega,n2,n3⟩ (by simp only;omega)
          repeat' (first|(apply z07;(first|refine z0r ?_| (apply z0b;(first|refine z02 z1i rfl rfl ?_| refine z02 z2r rfl rfl ?_))|(apply z0e;(refine z02 z0q rfl rfl ?_))|(apply z0m;(first|refine z02 (z1b (ys:=lv.map fun r=>[rgs r]) rfl (idx (g:=fun r=>[rgs r]) hr)) rfl rfl ?_| refine z02 (z1b (ys:=pts.map rcc) rfl (idx (g:=rcc) hx)) rfl rfl ?_))|(apply z0t;(first|refine z02 (z9b (by omega)) rfl rfl ?_| refine z02 z5h rfl rfl ?_| refine z02 (z0u z0x) rfl rfl ?_))|(apply z0s;(refine z1w hcl ?_))))|(apply z08;(first|refine z0p ?_|apply z09|refine z1v ?_| refine z2n (fun _=>?_) (fun _=>?_)))|(apply z05;(first|apply z06|apply z00|refine z0w ?_| apply z04|apply z01|apply z2b|apply z03|refine z0f (fun _=>?_) (fun _=>?_)| refine z5o rfl (fun _=>?_) (fun _=>?_)|refine z0l ?_))|(apply z2c;(first|refine z2e ?_| (apply z0j;(refine z0h z2r rfl rfl ?_))|(apply z0o;(first|refine z0h (z1b (ys:=pts.map rcc) rfl (idx (g:=rcc) hx)) rfl rfl ?_| refine z0h (z1b rfl (idx hy)) rfl rfl ?_))|(apply z1m;(refine z0h (z0u z0x) rfl rfl ?_)))))
          all_goals exact zD70
       · rw[zAy htb] at hbt
         rw[zAy (fun h=>htb h.1)] at n3
         have ihn':=ihn (k+1,B') ⟨by simp only;omega,n2,n3⟩ (by simp only;omega)
         repeat' (first|(apply z07;(first|refine z0r ?_| (apply z0b;(first|refine z02 z1i rfl rfl ?_| refine z02 z2r rfl rfl ?_))|(apply z0e;(refine z02 z0q rfl rfl ?_))|(apply z0m;(first|refine z02 (z1b (ys:=lv.map fun r=>[rgs r]) rfl (idx (g:=fun r=>[rgs r]) hr)) rfl rfl ?_| refine z02 (z1b (ys:=pts.map rcc) rfl (idx (g:=rcc) hx)) rfl rfl ?_))|(apply z0t;(first|refine z02 (z9b (by omega)) rfl rfl ?_| refine z02 z5h rfl rfl ?_| refine z02 (z0u z0x) rfl rfl ?_))|(apply z0s;(refine z1w hcl ?_))))|(apply z08;(first|refine z0p ?_|apply z09|refine z1v ?_| refine z2n (fun _=>?_) (fun _=>?_)))|(apply z05;(first|apply z06|apply z00|refine z0w ?_| apply z04|apply z01|apply z2b|apply z03|refine z0f (fun _=>?_) (fun _=>?_)| refine z5o rfl (fun _=>?_) (fun _=>?_)|refine z81 rfl (fun _=>?_) (fun _=>?_)|refine z0l ?_))|(apply z2c;(first|(apply z0v;refine z1h mix ?_)|refine z2e ?_| (apply z0j;(first|refine z0h z1i rfl rfl ?_| refine z0h z2r rfl rfl ?_))|(apply z0z;(refine z0h z0q rfl rfl ?_))|(apply z0o;(first|refine z0h (z1b (ys:=pts.map rcc) rfl (idx (g:=rcc) hx)) rfl rfl ?_| refine z0h (z1b rfl (idx hy)) rfl rfl ?_))|(apply z1m;(first|refine z0h (zkf (by omega)) rfl rfl ?_| refine z0h zc2 rfl rfl ?_| refine z0h (z0u z0x) rfl rfl ?_))|(apply z1q;(refine z52 (by first|exact rfl|exact⟨_,rfl,rfl,rfl⟩) rfl rfl rfl rfl rfl rfl ?_)))))
         all_goals exact zD70
     · obtain rfl:k=lv.length:=by omega
       rw[zAs,rdF] at n3
       subst n3
       clear ihn
       by_cases hz:B'=0
       · subst hz
         rw[zAz rfl,Option.toList_none,List.append_nil] at ih'
         repeat' (first|(apply z07;(first|refine z0r ?_| (apply z0b;(refine z02 z1i rfl rfl ?_))|(apply z0e;(refine z02 z0q rfl rfl ?_))|(apply z0t;(refine z02 (z0u z0x) rfl rfl ?_))))|(apply z08;(first|refine z0p ?_|apply z09))|(apply z05;(first|apply z06|apply z00|refine z0w ?_| apply z04|apply z01|apply z03|refine z0f (fun _=>?_) (fun _=>?_)| refine z0l ?_)))
         all_goals exact zD43
       · have hzi:¬ ((B':Nat):Int)=0:=by omega
         rw[zAy hz,Option.toList_some] at ih'
         repeat' (first|(apply z07;(first|refine z0r ?_| (apply z0b;(refine z02 z1i rfl rfl ?_))|(apply z0e;(refine z02 z0q rfl rfl ?_))|(apply z0t;(refine z02 (z0u z0x) rfl rfl ?_))))|(apply z08;(first|refine z0p ?_|apply z09))|(apply z05;(first|apply z06|apply z00|apply z04|apply z01|apply z2b|apply z03|refine z0f (fun _=>?_) (fun _=>?_)| refine z5o rfl (fun _=>?_) (fun _=>?_)|refine z0l ?_))|(apply z2c;(first|(apply z0v;refine z1h mix ?_)|refine z2e ?_| (apply z0j;(first|refine z0h z2r rfl rfl ?_| refine z0h z1y rfl rfl ?_))|(apply z0o;(first|refine z0h (z1b (ys:=pts.map rcc) rfl (idx (g:=rcc) hx)) rfl rfl ?_| refine z0h (z1b (ys:=pts.map rcc) rfl (zgu (g:=rcc) hyi)) rfl rfl ?_))|(apply z1m;(first|refine z0h (z1g (zak (by omega) (by omega))) rfl rfl ?_| refine z0h (z0u z0x) rfl rfl ?_))|(apply z6u;(refine zbm (g:=sed) (by first|exact rfl|exact⟨_,rfl,rfl,rfl⟩) rfl rfl ((x,y-1,(false,B')):Go.Ax.Edge (Bool × Nat)) rfl rfl rfl rfl rfl rfl rfl (by decide) (by omega) ?_))|(apply zfe;(refine zju (by first|exact rfl|exact⟨_,rfl,rfl,rfl⟩) rfl rfl rfl rfl rfl rfl rfl (by decide) ?_))|(apply za4;(refine zg3 rfl ?_)))))
         all_goals try (exfalso;first|omega|(simp at *;done))
         all_goals refine z2p 96 1002 ?_
         all_goals exact z0d ih' rfl rfl
   · obtain rfl:i=pts.length-1:=by omega
     clear ih
     repeat' (first|(apply z07;(first|refine z0r ?_| (apply z0c;(refine z22 ?_))|(apply z0g;(refine z0a z16 ?_))|(apply z10;(refine z23 ?_))))|(apply z08;(first|refine z0p ?_|apply z09))|(apply z05;(first|apply z06|apply z00|apply z04|apply z01|refine z0f (fun _=>?_) (fun _=>?_)| refine z0l ?_)))
     all_goals try (exfalso;omega)
     all_goals refine z2g 1002 rfl ?_
     all_goals exact z0n Tryz.func59 _ z19 ⟨rfl,rfl⟩
end
theorem zif {N:Nat} {lv:List (List Rg)} {e:Go.Ax.Edge (Bool × Nat)} (h:e∈z8f N lv):∃ i x y,(zb4 N lv)[i]? =some x∧(zb4 N lv)[i+1]? =some y∧e=(x,y-1,(false,zf6 N lv x))∧zf6 N lv x≠0:=by
 rw[z8f,List.mem_filterMap] at h
 obtain⟨i,hi,he⟩:=h
 rw[List.mem_range] at hi
 obtain⟨x,hx⟩:∃ x,(zb4 N lv)[i]? =some x:=⟨_,zA0 (by omega)⟩
 obtain⟨y,hy⟩:∃ y,(zb4 N lv)[i+1]? =some y:=⟨_,zA0 (by omega)⟩
 rw[cE,z47 hx,z47 hy] at he
 split at he
 · cases he
 · rename_i hu
   simp only[zAh] at he
   exact⟨i,x,y,hx,hy,he.symm,hu⟩
theorem zu3 {N:Nat} {lv:List (List Rg)} (hl64:lv.length≤64) (hlr:∀ r∈lv,∀ x∈r,0≤x.1∧x.1≤1114111∧0≤x.2∧x.2≤1114111):edE (z8f N lv)∧∀ e∈z8f N lv,e.2.2.2<2 ^ 64:=by
 have hr:=z8r (L:=z7b N 0 lv) fun r h=>hlr r (z7p N lv 0 r h)
 have hlt:=zsz (z7b N 0 lv)
 have hlen:=zji (B:=1114112) hlt (fun z hz=>by have:=hr z hz;omega)
 refine⟨⟨?_,fun e he=>?_⟩,fun e he=>?_⟩
 · have:=z5q (cE N lv (zb4 N lv)) (List.range ((zb4 N lv).length-1))
   rw[List.length_range] at this
   rw[z8f];rw[zb4] at *;omega
 · obtain⟨i,x,y,hx,hy,rfl,_⟩:=zif he
   exact zD65
 · obtain⟨i,x,y,hx,hy,rfl,_⟩:=zif he
   simp only;exact zpx _ _ _ hl64 (by decide)
def zqi (lv:List (List Rg)) (f l:Nat) (fo:List Nat) (nu:Bool):Option Au:=exL (fun k=>(k.1&&nu)||decide (k.2 &&& l≠0)) (fun k=>z8f (nxN f fo k) lv) 256 257 0 [(true,0)] ⟨[],[]⟩
def zc0 (e:Rx):Option Au:=zqi (bd e tb0).1.lv (bd e tb0).2.f (bd e tb0).2.l (bd e tb0).1.fo (bd e tb0).2.nu
theorem zkl (e:Rx) (hf:fit e) (h:val e≠0):z0y Tryz.prog 33 [.d (Drx e)] y55:=by
 refine z1r fun H=>?_
 have hval:=z4w e hf
 generalize val e=v at *
 obtain⟨op,mn,mx,rs,ks⟩:=e
 rw[z1n] at hval ⊢
 refine z0k Tryz.func33 (by kernel_rfl) rfl (by simp) ?_
 dsimp only[Tryz.f33]
 repeat' (first|(apply z07;(first|refine z0r ?_| (apply z0b;(refine z02 z2q rfl rfl ?_))|(apply z0s;(refine z1w hval ?_))|(apply z0c;(refine z22 ?_))|(apply z0g;(refine z0a z16 ?_))|(apply z1s;(refine z0a z3y ?_))|(apply z10;(refine z23 ?_))))|(apply z08;(first|refine z0p ?_|apply z09))|(apply z05;(first|apply z06|apply z00|apply z04|refine z5o rfl (fun _=>?_) (fun _=>?_))))
 all_goals exact zD72
theorem zi7 {M:Nat} (hS:zbt M) (hM:M≤200000000) (e:Rx) (hf:fit e) (h0:val e=0) (hbd:zbn 105 [.d (Drx e)] tb0 (bd e tb0)) (hsm:(bd e tb0).1.fo.length=(bd e tb0).1.lv.length∧(bd e tb0).1.lv.length≤64∧(∀ x∈(bd e tb0).1.fo,x<2 ^ 64)∧(bd e tb0).2.f<2 ^ 64∧(bd e tb0).2.l<2 ^ 64) (hlr:∀ r∈(bd e tb0).1.lv,∀ x∈r,0≤x.1∧x.1≤1114111∧0≤x.2∧x.2≤1114111) (hln:∀ r∈(bd e tb0).1.lv,r.length≤200000000)
 (hsz:∀ N:Nat,(z4g (z7b N 0 (bd e tb0).1.lv)).length≤M):z0y Tryz.prog 33 [.d (Drx e)] (zm6 (zc0 e)):=by
 refine z1r fun H=>?_
 have hval:=z4w e hf
 have hof:=y66 e hbd
 clear hbd
 rw[h0] at hval
 rw[zc0]
 dsimp only[ofB] at hof
 generalize hB:bd e tb0=r1 at *
 obtain⟨t1,p⟩:=r1
 obtain⟨lv,fo⟩:=t1
 obtain⟨hfo,hl64,hfx,pf,pl⟩:=hsm
 simp only at hfo hl64 hfx pf pl hof hlr hln hsz ⊢
 obtain⟨f,l,nu⟩:=p
 simp only at pf pl hof ⊢
 have hex:z1x Tryz.prog 63 [scP (true,0),.fn (.func 58) [] [.ptr (0,4) 0],.fn (.func 59) [] [.ptr (0,4) 0],I .i64 256] [((0,4),.box [.ptr (0,14) 0]),((0,14),tbx lv f l fo nu)] [] (exR (zqi lv f l fo nu)):=z2f fun H hH =>
  zne (.box [.ptr (0,14) 0]) (tbx lv f l fo nu) (fun k=>k.2<2 ^ 64) _ _ (true,0) 256 (by decide) (by decide) (by decide)
   (fun k hk=>zzi lv f l fo nu k hk pl) (fun k hk=>zze lv f l fo nu hS hM k hk pf hfo hl64 hfx hlr hln hsz) (fun k hk=>zu3 hl64 hlr) H (hH ((0,4),.box [.ptr (0,14) 0]) (by simp)) (hH ((0,14),tbx lv f l fo nu) (by simp))
 generalize zqi lv f l fo nu=o at *
 obtain⟨op,mn,mx,rs,ks⟩:=e
 rw[z1n] at hval hof ⊢
 cases o with
 | some x =>
  simp only[exR] at hex
  simp only[zm6]
  refine z0k Tryz.func33 (by kernel_rfl) rfl (by simp) ?_
  dsimp only[Tryz.f33]
  repeat' (first | (apply z07; (first | refine z9t rfl rfl (by decide) ?_ | refine z0r ?_| (apply z0b; (first | refine z02 z2q rfl rfl ?_| refine z02 z1y rfl rfl ?_)) | (apply z0s; (first | refine z3p hex rfl rfl (by decide) ?_ | refine z1w hval ?_| (refine zk2 rfl (hof _) (by decide) rfl (fun r H' h => ⟨_, h.1, h.2, rfl, rfl, ?_⟩)) /- zcy -/)) | (apply z0c; (refine z22 ?_)) | (apply z0g; (refine z0a z16 ?_)) | (apply z1s; (refine z0a z3y ?_)) | (apply z10; (refine z23 ?_)))) | (apply z08; (first | refine z0p ?_ | apply z09)) | (apply z05; (first | apply z06 | apply z00 | refine z0w ?_| apply z04)))
  all_goals exact zD72
 | none =>
  simp only[exR] at hex
  simp only[zm6]
  refine z0k Tryz.func33 (by kernel_rfl) rfl (by simp) ?_
  dsimp only[Tryz.f33]
  repeat' (first | (apply z07; (first | refine z9t rfl rfl (by decide) ?_ | refine z0r ?_| (apply z0b; (refine z02 z2q rfl rfl ?_)) | (apply z0s; (first | refine z3p hex rfl rfl (by decide) ?_ | refine z1w hval ?_| (refine zk2 rfl (hof _) (by decide) rfl (fun r H' h => ⟨_, h.1, h.2, rfl, rfl, ?_⟩)) /- zcy -/)) | (apply z0c; (refine z22 ?_)) | (apply z0g; (refine z0a z16 ?_)) | (apply z1s; (refine z0a z3y ?_)) | (apply z10; (refine z23 ?_)))) | (apply z08; (first | refine z0p ?_ | apply z09)) | (apply z05; (first | apply z06 | apply z00 | refine z1c ?_| refine z0w ?_| apply z04)))
  all_goals exact zD72
end Go.Proofs.YthdfkabdoidjfaaGreatDoor
