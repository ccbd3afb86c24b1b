/- A part of the proof: A14 to A31. -/
import Derived.Test.YthdfkabdoidjfaaGreatDoorQ3
import Derived.Test.YthdfkabdoidjfaaGreatDoorQ4
import Derived.Test.YthdfkabdoidjfaaGreatDoorQv
set_option linter.all false
namespace Go.Proofs.YthdfkabdoidjfaaGreatDoor
open Go.Ab Go.Ax
set_option maxHeartbeats 20000000
set_option maxRecDepth 100000
attribute [local irreducible] Run Ops Op1 z2i Val Tr z0z z27 NF Rel z3r z3s
namespace XS
abbrev xK:Type:=Bool × Nat
abbrev xC (x:Bool × Nat):List D:=scc x
abbrev xP (x:Bool × Nat):PV:=scP x
abbrev xE (e:Go.Ax.Edge (Bool × Nat)):List D:=sed e
abbrev xM (ks:List (Bool × Nat)):Blk:=.mp ((z3i 0 ks).map fun p=>(zt0 p.1,p.2))
abbrev xT:TypeId:=78
abbrev xF:FuncId:=58
abbrev xH:FuncId:=59
abbrev xA:List PV:=[.ptr (1,4) 0]
abbrev xB:List PV:=[.ptr (1,4) 0]
theorem xG:zgj Tryz.prog 78 zt0:=y5u
theorem xW {a:Bool × Nat}:∀ β w own v,PR β w own (scP a) v→v=zt0 a:=y5w
theorem xN:type_of% @Tryz.func63:=@Tryz.func63
end XS
open XS in
theorem zo2 (b1 b2:Blk) (ok:Bool × Nat→Prop) (fin:Bool × Nat→Bool) (edg:Bool × Nat→List (Go.Ax.Edge (Bool × Nat))) (first:Bool × Nat) (lim:Int) (hl0:1≤lim) (hl1:lim≤2000000) (hok0:ok first)
 (hfin:∀ k,ok k→z27 Tryz.prog 58 [scP k,.ptr (1,4) 0] [((1,4),b1),((1,14),b2)] [] (B (fin k))) (hedg:∀ k,ok k→z27 Tryz.prog 59 [scP k,.ptr (1,4) 0] [((1,4),b1),((1,14),b2)] [] (.d (.slice ((edg k).map sed)))) (hE:∀ k,ok k→edE (edg k)∧∀ e∈edg k,ok e.2.2)
 (H:Hf) (hb1:H 0 4=some b1) (hb2:H 0 14=some b2) :
 Ab.Spec Tryz.prog 63 [scP first,.fn (.func 58) [] [.ptr (0,4) 0],.fn (.func 59) [] [.ptr (0,4) 0],I .i64 lim] H (fun r H'=>r=.v (exR (exL fin edg lim.toNat (lim.toNat+1) 0 [first] ⟨[],[]⟩))∧H'=H):=by
 have hb:∀ (n:Nat) (tm:List (Nat × PV)) (hp:Hp),BkE ⟨n,tm,hp,H⟩ [((1,4),b1),((1,14),b2)]:=fun n tm hp=>by simp[BkE,z4v,push,hb1,hb2]
 refine z0m Tryz.func63 (by kernel_rfl) rfl (by simp) ?_
 dsimp only[Tryz.f63]
 repeat' (first|(apply z07;(first|refine z9g (by decide) rfl ?_|refine zdc (et:=3) (a:=first) (v:=z1x 0) (py:=scP first) (q:=([]:List ((Bool × Nat) × D))) (by kernel_rfl) y5u rfl rfl y5w rfl rfl rfl ?_|refine z0p ?_| (apply z0a;(refine z02 z3k rfl rfl ?_))|(apply z0k;(refine z0b z2q ?_))|(apply z1y;(refine z0b z2e ?_))|(apply z2h;(refine zbl rfl rfl rfl rfl rfl rfl rfl rfl rfl (by decide) ?_))))|(apply z08;(first|refine z0o ?_|apply z09))|(apply z05;(first|apply z06|apply z00|apply z01)))
 refine z2a 24 1000 ?_
 refine z3f 10 0 1001 4 1 rfl rfl rfl rfl ?_
 refine z3f 10 1 1002 39 1 rfl rfl rfl rfl ?_
 generalize hres:exL fin edg lim.toNat (lim.toNat+1) 0 [first] ⟨[],[]⟩=res
 refine z16 ?_
 refine z0c (z1u (fun q:Nat × List (Bool × Nat) × Au=>⟨128,[(1,.fn (.func 58) [] [.ptr (1,4) 0]),(2,.fn (.func 59) [] [.ptr (1,4) 0]),(3,I .i64 lim),(8,.ptr (0,8) 0),(10,.ptr (0,10) 0),(11,.ref (0,20)),(12,.ref (0,1000)),(13,I .i64 (q.1:Nat))],[(20,mpS q.2.1),(1000,.row 78 2 (q.2.1.map scc)),(10,.box [.ref (0,1001),.ref (0,1002)]),(1001,.row 4 1 (q.2.2.F.map boc)),(1002,.row 39 1 (q.2.2.A.map z4n)),(8,.box [.d (.lit z3g),.d (.lit z3g)])],H⟩) (fun q=>q.1≤q.2.1.length∧1≤q.2.1.length∧q.2.1.length≤lim.toNat∧q.2.2.F.length=q.1∧q.2.2.A.length=q.1∧(∀ x∈q.2.1,ok x)∧exL fin edg lim.toNat (lim.toNat+1-q.1) q.1 q.2.1 q.2.2=res) (fun q=>lim.toNat+1-q.1) ?_ (0,[first],⟨[],[]⟩) ⟨zAf _,zAj _,by simp only[zAn];omega,rfl,rfl,fun x hx=>by rw[zAq] at hx;rw[hx];exact hok0,hres⟩) rfl rfl
 exact zD1
end Go.Proofs.YthdfkabdoidjfaaGreatDoor
namespace Go.Proofs.YthdfkabdoidjfaaGreatDoor
open Go.Ab Go.Ax Go.Rx
set_option maxHeartbeats 20000000
set_option maxRecDepth 100000
attribute [local irreducible] Run Ops Op1 z2i Val Tr z0z z27 NF Rel z3r z3s
section
variable (lv:List (List Rg)) (f l:Nat) (fo:List Nat) (nu:Bool)
abbrev bsC:List (Nm × Blk):=[((1,4),.box [.ptr (0,14) 0]),((1,14),tbx lv f l fo nu)]
theorem zzp (k:Bool × Nat) (hk:k.2<2 ^ 64) (hl:l<2 ^ 64):z27 Tryz.prog 58 [scP k,.ptr (1,4) 0] (bsC lv f l fo nu) [] (B ((k.1&&nu)||decide (k.2 &&& l≠0))):=by
 refine z2f fun H hH=>?_
 have h4:H 1 4=some (.box [.ptr (0,14) 0]):=hH ((1,4),.box [.ptr (0,14) 0]) (by simp)
 have h14:H 1 14=some (tbx lv f l fo nu):=hH ((1,14),tbx lv f l fo nu) (by simp)
 obtain⟨b,S⟩:=k
 have hfin:(!decide (zf6 .u64 (S:Nat) (l:Nat)=0))=decide (S &&& l≠0):=by
  rw[y3i hk hl,← decide_not]
  exact decide_eq_decide.2 (by rw[Ne,not_congr];exact_mod_cast Iff.rfl)
 simp only[← hfin]
 refine z0m Tryz.func58 (by kernel_rfl) rfl (by simp) ?_
 dsimp only[Tryz.f58]
 cases b <;> cases nu
 all_goals repeat' (first|(apply z07;(first|refine z0p ?_| (apply z1y;(refine z0b z2e ?_))))|(apply z08;(first|refine z0o ?_|apply z09))|(apply z05;(first|apply z06|apply z00|apply z23))|(apply z25;(first|(apply z0t;refine z1b mix ?_)|refine z1z ?_| refine z29 ?_| (apply z0j;(first|refine zbk (by first|exact rfl|exact⟨_,rfl,rfl,rfl⟩) rfl h14 rfl rfl rfl rfl (by decide) ?_|refine zbk (by first|exact rfl|exact⟨_,rfl,rfl,rfl⟩) rfl h4 rfl rfl rfl rfl (by decide) ?_|refine z0g z1m rfl rfl ?_))|(apply z13;(refine z0g z0s rfl rfl ?_))|(apply z1q;(refine z0g z7o rfl rfl ?_)))))
 all_goals exact z0q Tryz.func58 _ z1e ⟨rfl,rfl⟩
def z9x (N:Nat):Nat→List (List Rg)→List (List Rg)
 | _,[]=>[]
 | k,r::ls=>if N.testBit k=true then r::z9x N (k+1) ls else z9x N (k+1) ls
theorem zqx (N:Nat) {lv:List (List Rg)} {k:Nat} {r:List Rg} (hr:lv[k]? =some r):z9x N k (lv.drop k)=(if N.testBit k=true then [r] else [])++z9x N (k+1) (lv.drop (k+1)):=by
 obtain⟨h1,h2⟩:=zA1.1 hr
 rw[List.drop_eq_getElem_cons h1,h2,z9x]
 split <;> simp
theorem z9w (N:Nat):∀ (lv:List (List Rg)) (k:Nat),∀ r∈z9x N k lv,r∈lv
 | [],_,r,h=>by simp[z9x] at h
 | x::ls,k,r,h=>by
  rw[z9x] at h
  split at h
  · rcases zAc.1 h with rfl|h
    · simp
    · exact List.mem_cons_of_mem _ (z9w N ls _ r h)
  · exact List.mem_cons_of_mem _ (z9w N ls _ r h)
theorem zm2 (N:Nat):∀ (lv:List (List Rg)) (k:Nat),(z9x N k lv).length≤lv.length
 | [],_=>by simp[z9x]
 | x::ls,k=>by
  have:=zm2 N ls (k+1)
  rw[z9x];split <;> simp <;> omega
def nxN (f:Nat) (fo:List Nat) (k:Bool × Nat):Nat:=if k.1=true then f else nxF k.2 0 0 fo
def y0n (N:Nat) (lv:List (List Rg)) (c:Int):Nat:=rdF (fun c l=>inR l c) c N 0 0 lv
def cE (N:Nat) (lv:List (List Rg)) (pts:List Int) (i:Nat):Option (Go.Ax.Edge (Bool × Nat)) :=
 if y0n N lv (pts.getD i 0)=0 then none else some (pts.getD i 0,pts.getD (i+1) 0-1,(false,y0n N lv (pts.getD i 0)))
def zhj (N:Nat) (lv:List (List Rg)):List Int:=z96 (z9x N 0 lv)
def zeb (N:Nat) (lv:List (List Rg)):List (Go.Ax.Edge (Bool × Nat)):=(List.range ((zhj N lv).length-1)).filterMap (cE N lv (zhj N lv))
theorem zzg {M:Nat} (hS:zbr M) (hM:M≤200000000) (k:Bool × Nat) (hk:k.2<2 ^ 64) (hf:f<2 ^ 64) (hfo:fo.length=lv.length) (hl64:lv.length≤64) (hfx:∀ x∈fo,x<2 ^ 64) (hlr:∀ r∈lv,∀ x∈r,0≤x.1∧x.1≤1114111∧0≤x.2∧x.2≤1114111) (hln:∀ r∈lv,r.length≤200000000)
 (hsz:∀ N:Nat,(z55 (z9x N 0 lv)).length≤M) :
 z27 Tryz.prog 59 [scP k,.ptr (1,4) 0] (bsC lv f l fo nu) [] (.d (.slice ((zeb (nxN f fo k) lv).map sed))):=by
 refine z2f fun H hH=>?_
 have h4:H 1 4=some (.box [.ptr (0,14) 0]):=hH ((1,4),.box [.ptr (0,14) 0]) (by simp)
 have h14:H 1 14=some (tbx lv f l fo nu):=hH ((1,14),tbx lv f l fo nu) (by simp)
 obtain⟨b,S⟩:=k
 have hnx:=zuo (X:=14) lv f l fo nu S hk (by omega) hfx b 2
 change z27 Tryz.prog 60 [.ptr (2,14) 0,I .u64 (S:Nat),B b] [((2,14),tbx lv f l fo nu)] [] (I .u64 ((nxN f fo (b,S):Nat):Int)) at hnx
 have hNl:nxN f fo (b,S)<2 ^ 64:=by
  rw[nxN]
  split
  · exact hf
  · exact zwy S fo 0 0 (by decide) hfx
 generalize nxN f fo (b,S)=N at *
 have hrr:∀ r∈z9x N 0 lv,∀ x∈r,0≤x.1∧x.1≤1114111∧0≤x.2∧x.2≤1114111:=fun r hr=>hlr r (z9w N lv 0 r hr)
 have hal:=zm2 N lv 0
 have hcuts:=zw2 hS (z9x N 0 lv) (hsz N) hM hrr (by omega) (fun r hr=>hln r (z9w N lv 0 r hr))
 have hpr:=zal hrr
 have hpl:=zlz (z9x N 0 lv)
 have hpl2:(z96 (z9x N 0 lv)).length≤200000000:=by have:=zrd (Go.Ax.srt (z55 (z9x N 0 lv)));rw[Go.Ax.zjk] at this;have:=hsz N;rw[z96];omega
 have hEq:zeb N lv=(List.range ((zhj N lv).length-1)).filterMap (cE N lv (zhj N lv)):=rfl
 rw[hEq]
 change z0z Tryz.prog 61 [.d (lvs (z9x N 0 lv))] (.d (.slice ((zhj N lv).map rcc))) at hcuts
 change ∀ z∈zhj N lv,0≤z∧z≤1114112 at hpr
 change 1≤(zhj N lv).length at hpl
 change (zhj N lv).length≤200000000 at hpl2
 generalize zhj N lv=pts at *
 clear hEq
 refine z0m Tryz.func59 (by kernel_rfl) rfl (by simp) ?_
 dsimp only[Tryz.f59]
 repeat' (first|(apply z07;(first|refine z0p ?_| (apply z0a;(first|refine z3p rfl h14 rfl rfl rfl rfl (by decide) ?_|refine z3p rfl h4 rfl rfl rfl rfl (by decide) ?_|refine z02 z1m rfl rfl ?_))|(apply z0e;(refine z02 z0s rfl rfl ?_))|(apply z14;(refine z02 (z1j rfl) rfl rfl ?_))|(apply z0u;(refine z3x hnx rfl (bkN h14) (by decide) ?_))|(apply z1y;(refine z0b z2e ?_))))|(apply z08;(first|refine z0o ?_|apply z09))|(apply z05;(first|apply z06|apply z00|apply z01)))
 all_goals try (exfalso;omega)
 refine z2r 5 1001 41 1 rfl rfl rfl ?_
 refine z16 ?_
 refine z0c (z1u (fun q:Nat × List (List Rg)=>⟨99,[(1,.ptr (2,4) 0),(2,.ptr (0,2) 0),(3,.d (.lit z3g)),(4,I .u64 (N:Nat)),(5,.ref (0,1001)),(23,.d (lvs lv)),(24,I .i64 lv.length),(25,I .i64 (q.1:Nat))],[(1001,.row 41 1 (q.2.map fun r=>[rgs r]))],H⟩) (fun q=>q.1≤lv.length∧q.2.length≤q.1∧q.2++z9x N q.1 (lv.drop q.1)=z9x N 0 lv) (fun q=>lv.length-q.1) ?_ (0,[]) ⟨zAf _,zAj _,rfl⟩) rfl rfl
 rintro⟨i,acc⟩ ⟨i1,i2,i3⟩ ih
 simp only at i1 i2 i3 ih ⊢
 by_cases hlt:i<lv.length
 · obtain⟨r,hr⟩:∃ r,lv[i]? =some r:=⟨_,zA0 hlt⟩
   have hbt:=ztv (S:=N) (i:=i) hNl (by omega)
   rw[zqx N hr] at i3
   by_cases htb:N.testBit i=true
   · rw[zAz htb] at hbt i3
     have ih':=ih (i+1,acc++[r]) ⟨by simp only;omega,by simp;omega,by simp only;rw[← i3,zAl]⟩ (by simp only;omega)
     repeat' (first|(apply z07;(first|refine z0p ?_| (apply z0a;(refine z02 z22 rfl rfl ?_))|(apply z0i;(refine z02 (z0v (ys:=lv.map fun r=>[rgs r]) rfl (idx (g:=fun r=>[rgs r]) hr)) rfl rfl ?_))|(apply z0n;(first|refine z02 (zc3 (by omega)) rfl rfl ?_| refine z02 z7o rfl rfl ?_| refine z02 (z0r z0y) rfl rfl ?_))|(apply z14;(refine z30 (g:=fun r:List Rg=>[rgs r]) r rfl ?_))|(apply z2h;(refine z2n rfl ?_))))|(apply z08;(first|refine z0o ?_|apply z09))|(apply z05;(first|apply z06|apply z00|apply z04|apply z01|apply z03|refine z0f (fun _=>?_) (fun _=>?_)| refine z0h ?_)))
     all_goals try (exfalso;omega)
     all_goals refine z2a 38 1001 ?_
     all_goals exact z0c ih' rfl rfl
   · rw[zAy htb] at hbt i3
     have ih':=ih (i+1,acc) ⟨by simp only;omega,by simp only;omega,by simp only;rw[← i3,List.nil_append]⟩ (by simp only;omega)
     repeat' (first|(apply z07;(first|refine z0p ?_| (apply z0a;(refine z02 z22 rfl rfl ?_))|(apply z0i;(refine z02 (z0v (ys:=lv.map fun r=>[rgs r]) rfl (idx (g:=fun r=>[rgs r]) hr)) rfl rfl ?_))|(apply z0n;(first|refine z02 (zc3 (by omega)) rfl rfl ?_| refine z02 z7o rfl rfl ?_| refine z02 (z0r z0y) rfl rfl ?_))|(apply z14;(refine z30 _ rfl ?_))|(apply z2h;(refine z2n rfl ?_))))|(apply z08;(first|refine z0o ?_|apply z09))|(apply z05;(first|apply z06|apply z00|apply z04|apply z01|apply z03|refine z0f (fun _=>?_) (fun _=>?_)| refine z0h ?_)))
     all_goals exact zD6
 · obtain rfl:i=lv.length:=by omega
   rw[zAs,z9x,List.append_nil] at i3
   subst i3
   clear ih
   refine z1r 1001 rfl ?_
   repeat' (first|(apply z07;(first|refine z0p ?_| (apply z0n;(refine z02 (z1g z0y) rfl rfl ?_))|(apply z14;(refine z02 (z1j rfl) rfl rfl ?_))|(apply z0u;(refine z1o hcuts ?_))))|(apply z08;(first|refine z0o ?_|apply z09))|(apply z05;(first|apply z06|apply z00|apply z04|apply z01|refine z0f (fun _=>?_) (fun _=>?_)| refine z0h ?_)))
   all_goals try (exfalso;omega)
   refine z2r 8 1002 89 4 rfl rfl rfl ?_
   refine z16 ?_
   refine z0c (z1u (fun q:Nat=>⟨99,[(1,.ptr (2,4) 0),(3,.d (.lit z3g)),(4,I .u64 (N:Nat)),(8,.ref (0,1002)),(9,.d (.slice (pts.map rcc))),(44,I .i64 ((pts.length:Int)-1)),(45,I .i64 (q:Nat))],[(1002,.row 89 4 (((List.range q).filterMap (cE N lv pts)).map sed))],H⟩) (fun q=>q≤pts.length-1) (fun q=>pts.length-1-q) ?_ 0 (zAf _)) rfl rfl
   intro i hi ih
   by_cases hlt2:i<pts.length-1
   · obtain⟨x,hx⟩:∃ x,pts[i]? =some x:=⟨_,zA0 (by omega)⟩
     obtain⟨y,hy⟩:∃ y,pts[i+1]? =some y:=⟨_,zA0 (by omega)⟩
     have hyi:pts[(((i:Nat):Int)+1).toNat]? =some y:=by rw[show (((i:Nat):Int)+1).toNat=i+1 by omega];exact hy
     have hxr:=hpr x (zA2 hx)
     have hyr:=hpr y (zA2 hy)
     have hfl:=z5l (cE N lv pts) (List.range i)
     rw[List.length_range] at hfl
     have ih':=ih (i+1) (by omega) (by omega)
     have hstep:(List.range (i+1)).filterMap (cE N lv pts)=(List.range i).filterMap (cE N lv pts)++(cE N lv pts i).toList:=by
      rw[List.range_succ,List.filterMap_append];simp[List.filterMap_cons];cases cE N lv pts i <;> rfl
     rw[hstep,cE,z2s hx,z2s hy] at ih'
     clear ih hstep
     generalize (List.range i).filterMap (cE N lv pts)=out at *
     obtain⟨m,hm⟩:∃ m,y0n N lv x=m:=⟨_,rfl⟩
     have hml:m<2 ^ 64:=by rw[← hm];exact zwz _ _ _ hl64 (by decide)
     rw[hm] at ih'
     rw[y0n] at hm
     repeat' (first|(apply z07;(first|refine z0p ?_| (apply z0a;(first|refine z3p rfl h14 rfl rfl rfl rfl (by decide) ?_|refine z3p rfl h4 rfl rfl rfl rfl (by decide) ?_))|(apply z0e;(refine z02 z0s rfl rfl ?_))|(apply z14;(refine z02 (z1j rfl) rfl rfl ?_))|(apply z0d;(refine z2g ?_))|(apply z0k;(refine z0b z2q ?_))|(apply z15;(refine z3u ?_))))|(apply z08;(first|refine z0o ?_|apply z09))|(apply z05;(first|apply z06|apply z00|apply z04|apply z01|refine z0f (fun _=>?_) (fun _=>?_)| refine z0h ?_)))
     all_goals try (exfalso;first|omega|(simp at *;done))
     refine z16 ?_
     refine z0c (z1u (fun q:Nat × Nat=>⟨99,[(1,.ptr (2,4) 0),(3,.d (.lit z3g)),(4,I .u64 (N:Nat)),(8,.ref (0,1002)),(9,.d (.slice (pts.map rcc))),(10,I .i64 (i:Nat)),(11,.ptr (0,11) 0),(44,I .i64 ((pts.length:Int)-1)),(45,I .i64 (i:Nat)),(52,.d (lvs lv)),(53,I .i64 lv.length),(54,I .i64 (q.1:Nat))],[(1002,.row 89 4 (out.map sed)),(11,.box [B false,I .u64 (q.2:Nat)])],H⟩) (fun q=>q.1≤lv.length∧q.2<2 ^ 64∧rdF (fun c l=>inR l c) x N q.1 q.2 (lv.drop q.1)=m) (fun q=>lv.length-q.1) ?_ (0,0) ⟨zAf _,by decide,hm⟩) rfl rfl
     rintro⟨k,B'⟩ ⟨n1,n2,n3⟩ ihn
     simp only at n1 n2 n3 ihn ⊢
     by_cases hk2:k<lv.length
     · obtain⟨r,hr⟩:∃ r,lv[k]? =some r:=⟨_,zA0 hk2⟩
       have hcl:=zio r (by have:=hln r (zA2 hr);omega) x
       rw[ztx _ _ _ hr] at n3
       have hbt:=ztv (S:=N) (i:=k) hNl (by omega)
       have hsh:=y1p (i:=k) (by omega)
       have hp2:2 ^ k<2 ^ 64:=Nat.pow_lt_pow_right (by decide) (by omega)
       have hor:=y0w n2 hp2
       rw[← hsh] at hor
       rw[zxw] at hcl
       by_cases htb:N.testBit k=true
       · rw[zAz htb] at hbt
         cases hin:inR r x with
         | true =>
          rw[zAz ⟨htb,hin⟩] at n3
          rw[hin] at hcl
          have ihn':=ihn (k+1,B' ||| 2 ^ k) ⟨by simp only;omega,Nat.or_lt_two_pow n2 hp2,n3⟩ (by simp only;omega)
          dsimp only at ihn'
          rw[← hor] at ihn'
          repeat' (first|(apply z07;(first|refine z0p ?_| (apply z0a;(first|refine z02 z1m rfl rfl ?_| refine z02 z22 rfl rfl ?_))|(apply z0e;(refine z02 z0s rfl rfl ?_))|(apply z0i;(first|refine z02 (z0v (ys:=lv.map fun r=>[rgs r]) rfl (idx (g:=fun r=>[rgs r]) hr)) rfl rfl ?_| refine z02 (z0v (ys:=pts.map rcc) rfl (idx (g:=rcc) hx)) rfl rfl ?_))|(apply z0n;(first|refine z02 (zc3 (by omega)) rfl rfl ?_| refine z02 z7o rfl rfl ?_| refine z02 (z0r z0y) rfl rfl ?_))|(apply z0u;(refine z1o hcl ?_))))|(apply z08;(first|refine z0o ?_|apply z09|refine z1w ?_| refine z2m (fun _=>?_) (fun _=>?_)))|(apply z05;(first|apply z06|apply z00|refine z1d ?_| refine z0w ?_| apply z04|apply z01|apply z23|apply z03|refine z0f (fun _=>?_) (fun _=>?_)| refine z4i rfl (fun _=>?_) (fun _=>?_)|refine z0h ?_))|(apply z25;(first|(apply z0t;refine z1b mix ?_)|refine z29 ?_| (apply z0j;(first|refine z0g z1m rfl rfl ?_| refine z0g z22 rfl rfl ?_))|(apply z13;(refine z0g z0s rfl rfl ?_))|(apply z0l;(first|refine z0g (z0v (ys:=pts.map rcc) rfl (idx (g:=rcc) hx)) rfl rfl ?_| refine z0g (z0v rfl (idx hy)) rfl rfl ?_))|(apply z1q;(first|refine z0g (zov (by omega)) rfl rfl ?_| refine z0g zi8 rfl rfl ?_| refine z0g (z0r z0y) rfl rfl ?_))|(apply z1s;(refine z57 (by first|exact rfl|exact⟨_,rfl,rfl,rfl⟩) rfl rfl rfl rfl rfl rfl ?_)))))
          all_goals exact zD114
         | false =>
          rw[zAy (fun h=>by rw[hin] at h;cases h.2)] at n3
          rw[hin] at hcl
          have ihn':=ihn (k+1,B') ⟨by simp only;omega,n2,n3⟩ (by simp only;omega)
          repeat' (first|(apply z07;(first|refine z0p ?_| (apply z0a;(first|refine z02 z1m rfl rfl ?_| refine z02 z22 rfl rfl ?_))|(apply z0e;(refine z02 z0s rfl rfl ?_))|(apply z0i;(first|refine z02 (z0v (ys:=lv.map fun r=>[rgs r]) rfl (idx (g:=fun r=>[rgs r]) hr)) rfl rfl ?_| refine z02 (z0v (ys:=pts.map rcc) rfl (idx (g:=rcc) hx)) rfl rfl ?_))|(apply z0n;(first|refine z02 (zc3 (by omega)) rfl rfl ?_| refine z02 z7o rfl rfl ?_| refine z02 (z0r z0y) rfl rfl ?_))|(apply z0u;(refine z1o hcl ?_))))|(apply z08;(first|refine z0o ?_|apply z09|refine z1w ?_| refine z2m (fun _=>?_) (fun _=>?_)))|(apply z05;(first|apply z06|apply z00|refine z0w ?_| apply z04|apply z01|apply z23|apply z03|refine z0f (fun _=>?_) (fun _=>?_)| refine z4i rfl (fun _=>?_) (fun _=>?_)|refine z0h ?_))|(apply z25;(first|refine z29 ?_| (apply z0j;(refine z0g z22 rfl rfl ?_))|(apply z0l;(first|refine z0g (z0v (ys:=pts.map rcc) rfl (idx (g:=rcc) hx)) rfl rfl ?_| refine z0g (z0v rfl (idx hy)) rfl rfl ?_))|(apply z1q;(refine z0g (z0r z0y) rfl rfl ?_)))))
          all_goals exact zD114
       · rw[zAy htb] at hbt
         rw[zAy (fun h=>htb h.1)] at n3
         have ihn':=ihn (k+1,B') ⟨by simp only;omega,n2,n3⟩ (by simp only;omega)
         repeat' (first|(apply z07;(first|refine z0p ?_| (apply z0a;(first|refine z02 z1m rfl rfl ?_| refine z02 z22 rfl rfl ?_))|(apply z0e;(refine z02 z0s rfl rfl ?_))|(apply z0i;(first|refine z02 (z0v (ys:=lv.map fun r=>[rgs r]) rfl (idx (g:=fun r=>[rgs r]) hr)) rfl rfl ?_| refine z02 (z0v (ys:=pts.map rcc) rfl (idx (g:=rcc) hx)) rfl rfl ?_))|(apply z0n;(first|refine z02 (zc3 (by omega)) rfl rfl ?_| refine z02 z7o rfl rfl ?_| refine z02 (z0r z0y) rfl rfl ?_))|(apply z0u;(refine z1o hcl ?_))))|(apply z08;(first|refine z0o ?_|apply z09|refine z1w ?_| refine z2m (fun _=>?_) (fun _=>?_)))|(apply z05;(first|apply z06|apply z00|refine z0w ?_| apply z04|apply z01|apply z23|apply z03|refine z0f (fun _=>?_) (fun _=>?_)| refine z4i rfl (fun _=>?_) (fun _=>?_)|refine zbm rfl (fun _=>?_) (fun _=>?_)|refine z0h ?_))|(apply z25;(first|(apply z0t;refine z1b mix ?_)|refine z29 ?_| (apply z0j;(first|refine z0g z1m rfl rfl ?_| refine z0g z22 rfl rfl ?_))|(apply z13;(refine z0g z0s rfl rfl ?_))|(apply z0l;(first|refine z0g (z0v (ys:=pts.map rcc) rfl (idx (g:=rcc) hx)) rfl rfl ?_| refine z0g (z0v rfl (idx hy)) rfl rfl ?_))|(apply z1q;(first|refine z0g (zov (by omega)) rfl rfl ?_| refine z0g zi8 rfl rfl ?_| refine z0g (z0r z0y) rfl rfl ?_))|(apply z1s;(refine z57 (by first|exact rfl|exact⟨_,rfl,rfl,rfl⟩) rfl rfl rfl rfl rfl rfl ?_)))))
         all_goals exact zD114
     · obtain rfl:k=lv.length:=by omega
       rw[zAs,rdF] at n3
       subst n3
       clear ihn
       by_cases hz:B'=0
       · subst hz
         rw[zAz rfl,Option.toList_none,List.append_nil] at ih'
         repeat' (first|(apply z07;(first|refine z0p ?_| (apply z0a;(refine z02 z1m rfl rfl ?_))|(apply z0e;(refine z02 z0s rfl rfl ?_))|(apply z0n;(refine z02 (z0r z0y) rfl rfl ?_))))|(apply z08;(first|refine z0o ?_|apply z09))|(apply z05;(first|apply z06|apply z00|refine z0w ?_| apply z04|apply z01|apply z03|refine z0f (fun _=>?_) (fun _=>?_)| refine z0h ?_)))
         all_goals exact zD26
       · have hzi:¬ ((B':Nat):Int)=0:=by omega
         rw[zAy hz,Option.toList_some] at ih'
         repeat' (first|(apply z07;(first|refine z0p ?_| (apply z0a;(refine z02 z1m rfl rfl ?_))|(apply z0e;(refine z02 z0s rfl rfl ?_))|(apply z0n;(refine z02 (z0r z0y) rfl rfl ?_))))|(apply z08;(first|refine z0o ?_|apply z09))|(apply z05;(first|apply z06|apply z00|apply z04|apply z01|apply z23|apply z03|refine z0f (fun _=>?_) (fun _=>?_)| refine z4i rfl (fun _=>?_) (fun _=>?_)|refine z0h ?_))|(apply z25;(first|(apply z0t;refine z1b mix ?_)|refine z29 ?_| (apply z0j;(first|refine z0g z22 rfl rfl ?_| refine z0g z2j rfl rfl ?_))|(apply z0l;(first|refine z0g (z0v (ys:=pts.map rcc) rfl (idx (g:=rcc) hx)) rfl rfl ?_| refine z0g (z0v (ys:=pts.map rcc) rfl (z5o (g:=rcc) hyi)) rfl rfl ?_))|(apply z1q;(first|refine z0g (z1g (z9j (by omega) (by omega))) rfl rfl ?_| refine z0g (z0r z0y) rfl rfl ?_))|(apply z4l;(refine z6f (g:=sed) (by first|exact rfl|exact⟨_,rfl,rfl,rfl⟩) rfl rfl ((x,y-1,(false,B')):Go.Ax.Edge (Bool × Nat)) rfl rfl rfl rfl rfl rfl rfl (by decide) (by omega) ?_))|(apply zf9;(refine ziq (by first|exact rfl|exact⟨_,rfl,rfl,rfl⟩) rfl rfl rfl rfl rfl rfl rfl (by decide) ?_))|(apply z5x;(refine z9i rfl ?_)))))
         all_goals try (exfalso;first|omega|(simp at *;done))
         all_goals refine z2a 96 1002 ?_
         all_goals exact z0c ih' rfl rfl
   · obtain rfl:i=pts.length-1:=by omega
     clear ih
     repeat' (first|(apply z07;(first|refine z0p ?_| (apply z0d;(refine z2g ?_))|(apply z0k;(refine z0b z2q ?_))|(apply z15;(refine z3u ?_))))|(apply z08;(first|refine z0o ?_|apply z09))|(apply z05;(first|apply z06|apply z00|apply z04|apply z01|refine z0f (fun _=>?_) (fun _=>?_)| refine z0h ?_)))
     all_goals try (exfalso;omega)
     all_goals refine z1r 1002 rfl ?_
     all_goals exact z0q Tryz.func59 _ z1e ⟨rfl,rfl⟩
end
theorem zhb {N:Nat} {lv:List (List Rg)} {e:Go.Ax.Edge (Bool × Nat)} (h:e∈zeb N lv):∃ i x y,(zhj N lv)[i]? =some x∧(zhj N lv)[i+1]? =some y∧e=(x,y-1,(false,y0n N lv x))∧y0n N lv x≠0:=by
 rw[zeb,List.mem_filterMap] at h
 obtain⟨i,hi,he⟩:=h
 rw[List.mem_range] at hi
 obtain⟨x,hx⟩:∃ x,(zhj N lv)[i]? =some x:=⟨_,zA0 (by omega)⟩
 obtain⟨y,hy⟩:∃ y,(zhj N lv)[i+1]? =some y:=⟨_,zA0 (by omega)⟩
 rw[cE,z2s hx,z2s hy] at he
 split at he
 · cases he
 · rename_i hu
   simp only[zAh] at he
   exact⟨i,x,y,hx,hy,he.symm,hu⟩
theorem zvl {N:Nat} {lv:List (List Rg)} (hl64:lv.length≤64) (hlr:∀ r∈lv,∀ x∈r,0≤x.1∧x.1≤1114111∧0≤x.2∧x.2≤1114111):edE (zeb N lv)∧∀ e∈zeb N lv,e.2.2.2<2 ^ 64:=by
 have hr:=zal (L:=z9x N 0 lv) fun r h=>hlr r (z9w N lv 0 r h)
 have hlt:=zp1 (z9x N 0 lv)
 have hlen:=zjj (B:=1114112) hlt (fun z hz=>by have:=hr z hz;omega)
 refine⟨⟨?_,fun e he=>?_⟩,fun e he=>?_⟩
 · have:=z5l (cE N lv (zhj N lv)) (List.range ((zhj N lv).length-1))
   rw[List.length_range] at this
   rw[zeb];rw[zhj] at *;omega
 · obtain⟨i,x,y,hx,hy,rfl,_⟩:=zhb he
   exact zD60
 · obtain⟨i,x,y,hx,hy,rfl,_⟩:=zhb he
   simp only;exact zwz _ _ _ hl64 (by decide)
def zt7 (lv:List (List Rg)) (f l:Nat) (fo:List Nat) (nu:Bool):Option Au:=exL (fun k=>(k.1&&nu)||decide (k.2 &&& l≠0)) (fun k=>zeb (nxN f fo k) lv) 256 257 0 [(true,0)] ⟨[],[]⟩
def zuf (e:Rx):Option Au:=zt7 (bd e tb0).1.lv (bd e tb0).2.f (bd e tb0).2.l (bd e tb0).1.fo (bd e tb0).2.nu
theorem zse {M:Nat} (hS:zbr M) (hM:M≤200000000) (e:Rx) (hf:fit e) (h0:val e=0) (hbd:zjr 105 [.d (Drx e)] tb0 (bd e tb0)) (hsm:(bd e tb0).1.fo.length=(bd e tb0).1.lv.length∧(bd e tb0).1.lv.length≤64∧(∀ x∈(bd e tb0).1.fo,x<2 ^ 64)∧(bd e tb0).2.f<2 ^ 64∧(bd e tb0).2.l<2 ^ 64) (hlr:∀ r∈(bd e tb0).1.lv,∀ x∈r,0≤x.1∧x.1≤1114111∧0≤x.2∧x.2≤1114111) (hln:∀ r∈(bd e tb0).1.lv,r.length≤200000000)
 (hsz:∀ N:Nat,(z55 (z9x N 0 (bd e tb0).1.lv)).length≤M):z0z Tryz.prog 33 [.d (Drx e)] (zxf (zuf e)):=by
 refine z1l fun H=>?_
 have hval:=zeu e hf
 have hof:=y6b e hbd
 clear hbd
 rw[h0] at hval
 rw[zuf]
 dsimp only[ofB] at hof
 generalize hB:bd e tb0=r1 at *
 obtain⟨t1,p⟩:=r1
 obtain⟨lv,fo⟩:=t1
 obtain⟨hfo,hl64,hfx,pf,pl⟩:=hsm
 simp only at hfo hl64 hfx pf pl hof hlr hln hsz ⊢
 obtain⟨f,l,nu⟩:=p
 simp only at pf pl hof ⊢
 have hex:z27 Tryz.prog 63 [scP (true,0),.fn (.func 58) [] [.ptr (0,4) 0],.fn (.func 59) [] [.ptr (0,4) 0],I .i64 256] [((0,4),.box [.ptr (0,14) 0]),((0,14),tbx lv f l fo nu)] [] (exR (zt7 lv f l fo nu)):=z2f fun H hH =>
  zo2 (.box [.ptr (0,14) 0]) (tbx lv f l fo nu) (fun k=>k.2<2 ^ 64) _ _ (true,0) 256 (by decide) (by decide) (by decide)
   (fun k hk=>zzp lv f l fo nu k hk pl) (fun k hk=>zzg lv f l fo nu hS hM k hk pf hfo hl64 hfx hlr hln hsz) (fun k hk=>zvl hl64 hlr) H (hH ((0,4),.box [.ptr (0,14) 0]) (by simp)) (hH ((0,14),tbx lv f l fo nu) (by simp))
 generalize zt7 lv f l fo nu=o at *
 obtain⟨op,mn,mx,rs,ks⟩:=e
 rw[zct] at hval hof ⊢
 cases o with
 | some x =>
  simp only[exR] at hex
  simp only[zxf]
  refine z0m Tryz.func33 (by kernel_rfl) rfl (by simp) ?_
  dsimp only[Tryz.f33]
  repeat' (first | (apply z07; (first | refine za7 rfl rfl (by decide) ?_ | refine z0p ?_| (apply z0a; (first | refine z02 z3k rfl rfl ?_| refine z02 z2j rfl rfl ?_)) | (apply z0u; (first | refine z3x hex rfl rfl (by decide) ?_ | refine z1o hval ?_| (refine zqi rfl (hof _) (by decide) rfl (fun r H' h => ⟨_, h.1, h.2, rfl, rfl, ?_⟩)) /- zhy -/)) | (apply z0d; (refine z2g ?_)) | (apply z0k; (refine z0b z2q ?_)) | (apply z1y; (refine z0b z2e ?_)) | (apply z15; (refine z3u ?_)))) | (apply z08; (first | refine z0o ?_ | apply z09)) | (apply z05; (first | apply z06 | apply z00 | refine z0w ?_| apply z04)))
  all_goals exact zD97
 | none =>
  simp only[exR] at hex
  simp only[zxf]
  refine z0m Tryz.func33 (by kernel_rfl) rfl (by simp) ?_
  dsimp only[Tryz.f33]
  repeat' (first | (apply z07; (first | refine za7 rfl rfl (by decide) ?_ | refine z0p ?_| (apply z0a; (refine z02 z3k rfl rfl ?_)) | (apply z0u; (first | refine z3x hex rfl rfl (by decide) ?_ | refine z1o hval ?_| (refine zqi rfl (hof _) (by decide) rfl (fun r H' h => ⟨_, h.1, h.2, rfl, rfl, ?_⟩)) /- zhy -/)) | (apply z0d; (refine z2g ?_)) | (apply z0k; (refine z0b z2q ?_)) | (apply z1y; (refine z0b z2e ?_)) | (apply z15; (refine z3u ?_)))) | (apply z08; (first | refine z0o ?_ | apply z09)) | (apply z05; (first | apply z06 | apply z00 | refine z1d ?_| refine z0w ?_| apply z04)))
  all_goals exact zD97
end Go.Proofs.YthdfkabdoidjfaaGreatDoor
