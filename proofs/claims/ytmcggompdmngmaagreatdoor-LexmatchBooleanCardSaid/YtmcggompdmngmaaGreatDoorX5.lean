/- A part. -/
import Derived.Test.YtmcggompdmngmaaGreatDoorX4
set_option linter.all false
open Go.Proofs.Tryz
namespace Go.Proofs.YtmcggompdmngmaaGreatDoor
open Go.Ab Go.Ax
set_option maxHeartbeats 20000000
set_option maxRecDepth 100000
attribute [local irreducible] Run Ops Op1 z0y Val Tr z0a z0u NF Rel z27 z29
namespace XS
abbrev xK:Type:=Bool × Nat
abbrev xC(x:Bool × Nat):List D:=scc x
abbrev xP(x:Bool × Nat):PV:=scP x
abbrev xE(e:Go.Ax.Edge (Bool × Nat)):List D:=sed e
abbrev xM(ks:List (Bool × Nat)):Blk:=.mp ((z3j 0 ks).map fun p=>(zwq p.1,p.2))
abbrev xT:TypeId:=110
abbrev xF:FuncId:=53
abbrev xH:FuncId:=54
abbrev xA:List PV:=[.ptr (1,4) 0]
abbrev xB:List PV:=[.ptr (1,4) 0]
theorem xG:zir prog 110 zwq:=yd8
theorem xW{a:Bool × Nat}:∀β w own v,PR β w own (scP a) v→v=zwq a:=ydm
theorem xN:type_of% @func58:=@func58
end XS
open XS in
theorem zpx(b1 b2:Blk)(ok:Bool × Nat→Prop)(fin:Bool × Nat→Bool)(edg:Bool × Nat→List (Go.Ax.Edge (Bool × Nat)))(first:Bool × Nat)(lim:Int)(hl0:1≤lim)(hl1:lim≤2000000)(hok0:ok first)
 (hfin:∀k,ok k→z0u prog 53 [scP k,.ptr (1,4) 0] [((1,4),b1),((1,14),b2)] [] (B (fin k))) (hedg:∀k,ok k→z0u prog 54 [scP k,.ptr (1,4) 0] [((1,4),b1),((1,14),b2)] [] (.d (.slice ((edg k).map sed)))) (hE:∀k,ok k→edE (edg k)∧∀e∈edg k,ok e.2.2)
 (H:Hf) (hb1:H 0 4=some b1) (hb2:H 0 14=some b2) :
 Ab.Spec prog 58 [scP first,.fn (.func 53) [] [.ptr (0,4) 0],.fn (.func 54) [] [.ptr (0,4) 0],I .i64 lim] H (fun r H'=>r=.v (exR (exL fin edg lim.toNat (lim.toNat+1) 0 [first] ⟨[],[]⟩))∧H'=H):=by
 have hb:∀(n:Nat) (tm:List (Nat × PV)) (hp:Hp),BkE ⟨n,tm,hp,H⟩ [((1,4),b1),((1,14),b2)]:=fun n tm hp=>by simp[BkE,z3h,push,hb1,hb2]
 refine z05 func58 (by kernel_rfl) rfl (by simp) ?_
 dsimp only[f58]
 repeat' first|(apply z0r;first|refine zbd (by decide) rfl ?_|refine zmi (et:=3) (a:=first) (v:=z2i 0) (py:=scP first) (q:=([]:List ((Bool × Nat) × D))) (by kernel_rfl) yd8 rfl rfl ydm rfl rfl rfl ?_)|(apply z1n;refine z09 z3s ?_)|(apply zqq;refine zj9 rfl rfl rfl rfl rfl rfl rfl rfl rfl (by decide) ?_)|refine z04 ?_|fail
 refine z1d 24 1000 ?_
 refine z2j 10 0 1001 4 1 rfl rfl rfl rfl ?_
 refine z2j 10 1 1002 96 1 rfl rfl rfl rfl ?_
 generalize hres:exL fin edg lim.toNat (lim.toNat+1) 0 [first] ⟨[],[]⟩=res
 refine z0f ?_
 refine z00 (z0s (fun q:Nat × List (Bool × Nat) × Au=>⟨128,[(1,.fn (.func 53) [] [.ptr (1,4) 0]),(2,.fn (.func 54) [] [.ptr (1,4) 0]),(3,I .i64 lim),(8,.ptr (0,8) 0),(10,.ptr (0,10) 0),(11,.ref (0,20)),(12,.ref (0,1000)),(13,I .i64 (q.1:Nat))],[(20,mpS q.2.1),(1000,.row 110 2 (q.2.1.map scc)),(10,.box [.ref (0,1001),.ref (0,1002)]),(1001,.row 4 1 (q.2.2.F.map boc)),(1002,.row 96 1 (q.2.2.A.map z7m)),(8,.box [.d (.lit z2n),.d (.lit z2n)])],H⟩) (fun q=>q.1≤q.2.1.length∧1≤q.2.1.length∧q.2.1.length≤lim.toNat∧q.2.2.F.length=q.1∧q.2.2.A.length=q.1∧(∀x∈q.2.1,ok x)∧exL fin edg lim.toNat (lim.toNat+1-q.1) q.1 q.2.1 q.2.2=res) (fun q=>lim.toNat+1-q.1) ?_ (0,[first],⟨[],[]⟩) ⟨zAf _,zAj _,by simp only[zAn];omega,rfl,rfl,fun x hx=>by rw[zAq]at hx;rw[hx];exact hok0,hres⟩) rfl rfl
 exact zD1
end Go.Proofs.YtmcggompdmngmaaGreatDoor
namespace Go.Proofs.YtmcggompdmngmaaGreatDoor
open Go.Ab Go.Ax Go.Rx
set_option maxHeartbeats 20000000
set_option maxRecDepth 100000
attribute [local irreducible] Run Ops Op1 z0y Val Tr z0a z0u NF Rel z27 z29
section
variable(lv:List (List Rg))(f l:Nat)(fo:List Nat)(nu:Bool)
abbrev bsC:List (Nm × Blk):=[((1,4),.box [.ptr (0,14) 0]),((1,14),tbx lv f l fo nu)]
theorem y5b(k:Bool × Nat)(hk:k.2<2 ^ 64)(hl:l<2 ^ 64):z0u prog 53 [scP k,.ptr (1,4) 0] (bsC lv f l fo nu) [] (B ((k.1&&nu)||decide (k.2 &&& l≠0))):=by
 refine z0v fun H hH=>?_
 have h4:H 1 4=some (.box [.ptr (0,14) 0]):=hH ((1,4),.box [.ptr (0,14) 0]) (by simp)
 have h14:H 1 14=some (tbx lv f l fo nu):=hH ((1,14),tbx lv f l fo nu) (by simp)
 obtain⟨b,S⟩:=k
 have hfin:(!decide (zf3 .u64 (S:Nat) (l:Nat)=0))=decide (S &&& l≠0):=by
  rw[zy5 hk hl,←decide_not]
  exact decide_eq_decide.2 (by rw[Ne,not_congr];exact_mod_cast Iff.rfl)
 simp only[←hfin]
 refine z05 func53 (by kernel_rfl) rfl (by simp) ?_
 dsimp only[f53]
 cases b <;> cases nu
 all_goals repeat' first|(apply z0b;first|refine z5c h14 ?_| refine z5c h4 ?_)|(apply z19;refine z0c z4r rfl rfl ?_)|(apply z1n;refine z09 z3s ?_)|refine z04 ?_|fail
 all_goals exact z03 func53 _ z1h ⟨rfl,rfl⟩
def z9g(N:Nat):Nat→List (List Rg)→List (List Rg)
 | _,[]=>[]
 | k,r::ls=>if N.testBit k=true then r::z9g N (k+1) ls else z9g N (k+1) ls
theorem zw1(N:Nat){lv:List (List Rg)}{k:Nat}{r:List Rg}(hr:lv[k]? =some r):z9g N k (lv.drop k)=(if N.testBit k=true then [r]else [])++z9g N (k+1) (lv.drop (k+1)):=by
 obtain⟨h1,h2⟩:=zA1.1 hr
 rw[List.drop_eq_getElem_cons h1,h2,z9g]
 split <;> simp
theorem z8m(N:Nat):∀(lv:List (List Rg)) (k:Nat),∀r∈z9g N k lv,r∈lv
 | [],_,r,h=>by simp[z9g]at h
 | x::ls,k,r,h=>by
  rw[z9g]at h
  split at h
  ·rcases zAc.1 h with rfl|h
   ·simp
   ·exact List.mem_cons_of_mem _ (z8m N ls _ r h)
  ·exact List.mem_cons_of_mem _ (z8m N ls _ r h)
theorem zgw(N:Nat):∀(lv:List (List Rg)) (k:Nat),(z9g N k lv).length≤lv.length
 | [],_=>by simp[z9g]
 | x::ls,k=>by
  have:=zgw N ls (k+1)
  rw[z9g];split <;> simp <;> omega
def nxN(f:Nat)(fo:List Nat)(k:Bool × Nat):Nat:=if k.1=true then f else nxF k.2 0 0 fo
def y71(N:Nat)(lv:List (List Rg))(c:Int):Nat:=rdF (fun c l=>inR l c) c N 0 0 lv
def cE(N:Nat)(lv:List (List Rg))(pts:List Int)(i:Nat):Option (Go.Ax.Edge (Bool × Nat)) :=
 if y71 N lv (pts.getD i 0)=0 then none else some (pts.getD i 0,pts.getD (i+1) 0-1,(false,y71 N lv (pts.getD i 0)))
def zk5(N:Nat)(lv:List (List Rg)):List Int:=z8o (z9g N 0 lv)
def zf4(N:Nat)(lv:List (List Rg)):List (Go.Ax.Edge (Bool × Nat)):=(List.range ((zk5 N lv).length-1)).filterMap (cE N lv (zk5 N lv))
theorem y4v{M:Nat}(hS:zdo M)(hM:M≤200000000)(k:Bool × Nat)(hk:k.2<2 ^ 64)(hf:f<2 ^ 64)(hfo:fo.length=lv.length)(hl64:lv.length≤64)(hfx:∀x∈fo,x<2 ^ 64)(hlr:∀r∈lv,∀x∈r,0≤x.1∧x.1≤1114111∧0≤x.2∧x.2≤1114111)(hln:∀r∈lv,r.length≤200000000)
 (hsz:∀N:Nat,(z4j (z9g N 0 lv)).length≤M) :
 z0u prog 54 [scP k,.ptr (1,4) 0] (bsC lv f l fo nu) [] (.d (.slice ((zf4 (nxN f fo k) lv).map sed))):=by
 refine z0v fun H hH=>?_
 have h4:H 1 4=some (.box [.ptr (0,14) 0]):=hH ((1,4),.box [.ptr (0,14) 0]) (by simp)
 have h14:H 1 14=some (tbx lv f l fo nu):=hH ((1,14),tbx lv f l fo nu) (by simp)
 obtain⟨b,S⟩:=k
 have hnx:=zpk (X:=14) lv f l fo nu S hk (by omega) hfx b 2
 change z0u prog 55 [.ptr (2,14) 0,I .u64 (S:Nat),B b] [((2,14),tbx lv f l fo nu)] [] (I .u64 ((nxN f fo (b,S):Nat):Int))at hnx
 have hNl:nxN f fo (b,S)<2 ^ 64:=by
  rw[nxN]
  split
  ·exact hf
  ·exact zvs S fo 0 0 (by decide) hfx
 generalize nxN f fo (b,S)=N at *
 have hrr:∀r∈z9g N 0 lv,∀x∈r,0≤x.1∧x.1≤1114111∧0≤x.2∧x.2≤1114111:=fun r hr=>hlr r (z8m N lv 0 r hr)
 have hal:=zgw N lv 0
 have hcuts:=y1h hS (z9g N 0 lv) (hsz N) hM hrr (by omega) fun r hr=>hln r (z8m N lv 0 r hr)
 have hpr:=za2 hrr
 have hpl:=znn (z9g N 0 lv)
 have hpl2:(z8o (z9g N 0 lv)).length≤200000000:=by have:=zsb (Go.Ax.srt (z4j (z9g N 0 lv)));rw[Go.Ax.zls]at this;have:=hsz N;rw[z8o];omega
 have hEq:zf4 N lv=(List.range ((zk5 N lv).length-1)).filterMap (cE N lv (zk5 N lv)):=rfl
 rw[hEq]
 change z0a prog 56 [.d (lvs (z9g N 0 lv))] (.d (.slice ((zk5 N lv).map rcc)))at hcuts
 change ∀z∈zk5 N lv,0≤z∧z≤1114112 at hpr
 change 1≤(zk5 N lv).length at hpl
 change (zk5 N lv).length≤200000000 at hpl2
 generalize zk5 N lv=pts at *
 clear hEq
 refine z05 func54 (by kernel_rfl) rfl (by simp) ?_
 dsimp only[f54]
 repeat' first|(apply z1f;first|refine zcl h14 ?_| refine zcl h4 ?_)|(apply z06;refine z3x hnx (bkN h14) ?_)|(apply z1n;refine z09 z3s ?_)|refine z04 ?_|fail
 all_goals try omega
 refine z1j 5 1001 48 1 rfl rfl rfl ?_
 refine z0f ?_
 refine z00 (z0s (fun q:Nat × List (List Rg)=>⟨99,[(1,.ptr (2,4) 0),(2,.ptr (0,2) 0),(3,.d (.lit z2n)),(4,I .u64 (N:Nat)),(5,.ref (0,1001)),(23,.d (lvs lv)),(24,I .i64 lv.length),(25,I .i64 (q.1:Nat))],[(1001,.row 48 1 (q.2.map fun r=>[rgs r]))],H⟩) (fun q=>q.1≤lv.length∧q.2.length≤q.1∧q.2++z9g N q.1 (lv.drop q.1)=z9g N 0 lv) (fun q=>lv.length-q.1) ?_ (0,[]) ⟨zAf _,zAj _,rfl⟩) rfl rfl
 rintro⟨i,acc⟩ ⟨i1,i2,i3⟩ ih
 simp only at i1 i2 i3 ih⊢
 by_cases hlt:i<lv.length
 ·obtain⟨r,hr⟩:∃r,lv[i]? =some r:=⟨_,zA0 hlt⟩
  have hbt:=ztv (S:=N) (i:=i) hNl (by omega)
  rw[zw1 N hr]at i3
  by_cases htb:N.testBit i=true
  ·rw[zAz htb]at hbt i3
   have ih':=ih (i+1,acc++[r]) ⟨by simp only;omega,by simp;omega,by simp only;rw[←i3,zAl]⟩ (by simp only;omega)
   repeat' first|(apply z01;refine z07 (z11 (ys:=lv.map fun r=>[rgs r]) rfl (idx (g:=fun r=>[rgs r]) hr)) rfl rfl ?_)|(apply z0t;first|refine z07 (z99 (by omega)) rfl rfl ?_| refine z07 z4r rfl rfl ?_)|(apply z14;refine z2w (g:=fun r:List Rg=>[rgs r]) r rfl ?_)|refine z04 ?_|refine fk (fun _=>?_) fun _=>?_
   all_goals try omega
   all_goals refine z1d 38 1001 ?_
   all_goals exact z00 ih' rfl rfl
  ·rw[zAy htb]at hbt i3
   have ih':=ih (i+1,acc) ⟨by simp only;omega,by simp only;omega,by simp only;rw[←i3,List.nil_append]⟩ (by simp only;omega)
   repeat' first|(apply z01;refine z07 (z11 (ys:=lv.map fun r=>[rgs r]) rfl (idx (g:=fun r=>[rgs r]) hr)) rfl rfl ?_)|(apply z0t;first|refine z07 (z99 (by omega)) rfl rfl ?_| refine z07 z4r rfl rfl ?_)|refine z04 ?_|refine fk (fun _=>?_) fun _=>?_
   all_goals exact zD8
 ·obtain rfl:i=lv.length:=by omega
  rw[zAs,z9g,List.append_nil]at i3
  subst i3
  clear ih
  refine z0o 1001 rfl ?_
  repeat' first|(apply z06;refine z1o hcuts ?_)|refine z04 ?_|refine fk (fun _=>?_) fun _=>?_
  all_goals try omega
  refine z1j 8 1002 121 4 rfl rfl rfl ?_
  refine z0f ?_
  refine z00 (z0s (fun q:Nat=>⟨99,[(1,.ptr (2,4) 0),(3,.d (.lit z2n)),(4,I .u64 (N:Nat)),(8,.ref (0,1002)),(9,.d (.slice (pts.map rcc))),(44,I .i64 ((pts.length:Int)-1)),(45,I .i64 (q:Nat))],[(1002,.row 121 4 (((List.range q).filterMap (cE N lv pts)).map sed))],H⟩) (fun q=>q≤pts.length-1) (fun q=>pts.length-1-q) ?_ 0 (zAf _)) rfl rfl
  intro i hi ih
  by_cases hlt2:i<pts.length-1
  ·obtain⟨x,hx⟩:∃x,pts[i]? =some x:=⟨_,zA0 (by omega)⟩
   obtain⟨y,hy⟩:∃y,pts[i+1]? =some y:=⟨_,zA0 (by omega)⟩
   have hyi:pts[(((i:Nat):Int)+1).toNat]? =some y:=by rw[show(((i:Nat):Int)+1).toNat=i+1 by omega];exact hy
   have hxr:=hpr x (zA2 hx)
   have hyr:=hpr y (zA2 hy)
   have hfl:=z56 (cE N lv pts) (List.range i)
   rw[List.length_range]at hfl
   have ih':=ih (i+1) (by omega) (by omega)
   have hstep:(List.range (i+1)).filterMap (cE N lv pts)=(List.range i).filterMap (cE N lv pts)++(cE N lv pts i).toList:=by
    rw[List.range_succ,List.filterMap_append];simp[List.filterMap_cons];cases cE N lv pts i <;> rfl
   rw[hstep,cE,z34 hx,z34 hy]at ih'
   clear ih hstep
   generalize (List.range i).filterMap (cE N lv pts)=out at *
   obtain⟨m,hm⟩:∃m,y71 N lv x=m:=⟨_,rfl⟩
   have hml:m<2 ^ 64:=by rw[←hm];exact zrg _ _ _ hl64 (by decide)
   rw[hm]at ih'
   rw[y71]at hm
   repeat' first|(apply z1f;first|refine zcl h14 ?_| refine zcl h4 ?_)|refine z04 ?_|refine fk (fun _=>?_) fun _=>?_
   all_goals try (exfalso;first|omega|(simp at *;done))
   refine z0f ?_
   refine z00 (z0s (fun q:Nat × Nat=>⟨99,[(1,.ptr (2,4) 0),(3,.d (.lit z2n)),(4,I .u64 (N:Nat)),(8,.ref (0,1002)),(9,.d (.slice (pts.map rcc))),(10,I .i64 (i:Nat)),(11,.ptr (0,11) 0),(44,I .i64 ((pts.length:Int)-1)),(45,I .i64 (i:Nat)),(52,.d (lvs lv)),(53,I .i64 lv.length),(54,I .i64 (q.1:Nat))],[(1002,.row 121 4 (out.map sed)),(11,.box [B false,I .u64 (q.2:Nat)])],H⟩) (fun q=>q.1≤lv.length∧q.2<2 ^ 64∧rdF (fun c l=>inR l c) x N q.1 q.2 (lv.drop q.1)=m) (fun q=>lv.length-q.1) ?_ (0,0) ⟨zAf _,by decide,hm⟩) rfl rfl
   rintro⟨k,B'⟩ ⟨n1,n2,n3⟩ ihn
   simp only at n1 n2 n3 ihn⊢
   by_cases hk2:k<lv.length
   ·obtain⟨r,hr⟩:∃r,lv[k]? =some r:=⟨_,zA0 hk2⟩
    have hcl:=zlu r (by have:=hln r (zA2 hr);omega) x
    rw[zng _ _ _ hr]at n3
    have hbt:=ztv (S:=N) (i:=k) hNl (by omega)
    have hsh:=y5e (i:=k) (by omega)
    have hp2:2 ^ k<2 ^ 64:=Nat.pow_lt_pow_right (by decide) (by omega)
    have hor:=y2k n2 hp2
    rw[←hsh]at hor
    rw[zuj]at hcl
    by_cases htb:N.testBit k=true
    ·rw[zAz htb]at hbt
     cases hin:inR r x with
     | true =>
      rw[zAz ⟨htb,hin⟩]at n3
      rw[hin]at hcl
      have ihn':=ihn (k+1,B' ||| 2 ^ k) ⟨by simp only;omega,Nat.or_lt_two_pow n2 hp2,n3⟩ (by simp only;omega)
      dsimp only at ihn'
      rw[←hor]at ihn'
      all_goals exact zD29
     | false =>
      rw[zAy fun h=>by rw[hin]at h;cases h.2]at n3
      rw[hin]at hcl
      have ihn':=ihn (k+1,B') ⟨by simp only;omega,n2,n3⟩ (by simp only;omega)
      repeat' first|(apply z01;first|refine z07 (z11 (ys:=lv.map fun r=>[rgs r]) rfl (idx (g:=fun r=>[rgs r]) hr)) rfl rfl ?_| refine z07 (z11 (ys:=pts.map rcc) rfl (idx (g:=rcc) hx)) rfl rfl ?_)|(apply z02;refine z0c (z11 (ys:=pts.map rcc) rfl (idx (g:=rcc) hx)) rfl rfl ?_)|(apply z0t;first|refine z07 (z99 (by omega)) rfl rfl ?_| refine z07 z4r rfl rfl ?_)|(apply z06;refine z1o hcl ?_)|refine z04 ?_|refine fk (fun _=>?_) fun _=>?_
      all_goals try omega
      all_goals exact z00 ihn' rfl rfl
    ·rw[zAy htb]at hbt
     rw[zAy fun h=>htb h.1]at n3
     have ihn':=ihn (k+1,B') ⟨by simp only;omega,n2,n3⟩ (by simp only;omega)
     all_goals exact zD29
   ·obtain rfl:k=lv.length:=by omega
    rw[zAs,rdF]at n3
    subst n3
    clear ihn
    by_cases hz:B'=0
    ·subst hz
     rw[zAz rfl,Option.toList_none,List.append_nil]at ih'
     repeat' first|refine z04 ?_|refine fk (fun _=>?_) fun _=>?_
     all_goals exact zD25
    ·have hzi:¬((B':Nat):Int)=0:=by omega
     rw[zAy hz,Option.toList_some]at ih'
     repeat' first|(apply z02;first|refine z0c (z11 (ys:=pts.map rcc) rfl (idx (g:=rcc) hx)) rfl rfl ?_| refine z0c (z11 (ys:=pts.map rcc) rfl (zam (g:=rcc) hyi)) rfl rfl ?_)|(apply z19;refine z0c (z1i (zc9 (by omega) (by omega))) rfl rfl ?_)|(apply z4i;refine z4y (g:=sed) (by first|exact rfl|exact⟨_,rfl,rfl,rfl⟩) rfl rfl ((x,y-1,(false,B')):Go.Ax.Edge (Bool × Nat)) rfl rfl rfl rfl rfl rfl rfl (by decide) (by omega) ?_)|refine z04 ?_|refine fk (fun _=>?_) fun _=>?_
     all_goals try (exfalso;first|omega|(simp at *;done))
     all_goals refine z1d 96 1002 ?_
     all_goals exact z00 ih' rfl rfl
  ·obtain rfl:i=pts.length-1:=by omega
   clear ih
   repeat' first|refine z04 ?_|refine fk (fun _=>?_) fun _=>?_
   all_goals try omega
   all_goals refine z0o 1002 rfl ?_
   all_goals exact z03 func54 _ z1h ⟨rfl,rfl⟩
end
theorem zjs{N:Nat}{lv:List (List Rg)}{e:Go.Ax.Edge (Bool × Nat)}(h:e∈zf4 N lv):∃i x y,(zk5 N lv)[i]? =some x∧(zk5 N lv)[i+1]? =some y∧e=(x,y-1,(false,y71 N lv x))∧y71 N lv x≠0:=by
 rw[zf4,List.mem_filterMap]at h
 obtain⟨i,hi,he⟩:=h
 rw[List.mem_range]at hi
 obtain⟨x,hx⟩:∃x,(zk5 N lv)[i]? =some x:=⟨_,zA0 (by omega)⟩
 obtain⟨y,hy⟩:∃y,(zk5 N lv)[i+1]? =some y:=⟨_,zA0 (by omega)⟩
 rw[cE,z34 hx,z34 hy]at he
 split at he
 ·cases he
 ·rename_i hu
  simp only[zAh]at he
  exact⟨i,x,y,hx,hy,he.symm,hu⟩
theorem zzh{N:Nat}{lv:List (List Rg)}(hl64:lv.length≤64)(hlr:∀r∈lv,∀x∈r,0≤x.1∧x.1≤1114111∧0≤x.2∧x.2≤1114111):edE (zf4 N lv)∧∀e∈zf4 N lv,e.2.2.2<2 ^ 64:=by
 have hr:=za2 (L:=z9g N 0 lv) fun r h=>hlr r (z8m N lv 0 r h)
 have hlt:=ztr (z9g N 0 lv)
 have hlen:=zmk (B:=1114112) hlt fun z hz=>by have:=hr z hz;omega
 refine⟨⟨?_,fun e he=>?_⟩,fun e he=>?_⟩
 ·have:=z56 (cE N lv (zk5 N lv)) (List.range ((zk5 N lv).length-1))
  rw[List.length_range]at this
  rw[zf4];rw[zk5]at *;omega
 ·obtain⟨i,x,y,hx,hy,rfl,_⟩:=zjs he
  exact zD61
 ·obtain⟨i,x,y,hx,hy,rfl,_⟩:=zjs he
  simp only;exact zrg _ _ _ hl64 (by decide)
def zyg(lv:List (List Rg))(f l:Nat)(fo:List Nat)(nu:Bool):Option Au:=exL (fun k=>(k.1&&nu)||decide (k.2 &&& l≠0)) (fun k=>zf4 (nxN f fo k) lv) 256 257 0 [(true,0)] ⟨[],[]⟩
def zrn(e:Rx):Option Au:=zyg (bd e tb0).1.lv (bd e tb0).2.f (bd e tb0).2.l (bd e tb0).1.fo (bd e tb0).2.nu
theorem zu5{M:Nat}(hS:zdo M)(hM:M≤200000000)(e:Rx)(hf:fit e)(h0:val e=0)(hbd:zih 92 [.d (Drx e)] tb0 (bd e tb0))(hsm:(bd e tb0).1.fo.length=(bd e tb0).1.lv.length∧(bd e tb0).1.lv.length≤64∧(∀x∈(bd e tb0).1.fo,x<2 ^ 64)∧(bd e tb0).2.f<2 ^ 64∧(bd e tb0).2.l<2 ^ 64)(hlr:∀r∈(bd e tb0).1.lv,∀x∈r,0≤x.1∧x.1≤1114111∧0≤x.2∧x.2≤1114111)(hln:∀r∈(bd e tb0).1.lv,r.length≤200000000)
 (hsz:∀N:Nat,(z4j (z9g N 0 (bd e tb0).1.lv)).length≤M):z0a prog 21 [.d (Drx e)] (zzc (zrn e)):=by
 refine z0q fun H=>?_
 have hval:=z8l e hf
 have hof:=ydh e hbd
 clear hbd
 rw[h0]at hval
 rw[zrn]
 dsimp only[ofB]at hof
 generalize hB:bd e tb0=r1 at *
 obtain⟨t1,p⟩:=r1
 obtain⟨lv,fo⟩:=t1
 obtain⟨hfo,hl64,hfx,pf,pl⟩:=hsm
 simp only at hfo hl64 hfx pf pl hof hlr hln hsz⊢
 obtain⟨f,l,nu⟩:=p
 simp only at pf pl hof⊢
 have hex:z0u prog 58 [scP (true,0),.fn (.func 53) [] [.ptr (0,4) 0],.fn (.func 54) [] [.ptr (0,4) 0],I .i64 256] [((0,4),.box [.ptr (0,14) 0]),((0,14),tbx lv f l fo nu)] [] (exR (zyg lv f l fo nu)):=z0v fun H hH =>
  zpx (.box [.ptr (0,14) 0]) (tbx lv f l fo nu) (fun k=>k.2<2 ^ 64) _ _ (true,0) 256 (by decide) (by decide) (by decide)
   (fun k hk=>y5b lv f l fo nu k hk pl) (fun k hk=>y4v lv f l fo nu hS hM k hk pf hfo hl64 hfx hlr hln hsz) (fun k hk=>zzh hl64 hlr) H (hH ((0,4),.box [.ptr (0,14) 0]) (by simp)) (hH ((0,14),tbx lv f l fo nu) (by simp))
 generalize zyg lv f l fo nu=o at *
 obtain⟨op,mn,mx,rs,ks⟩:=e
 rw[z4g]at hval hof⊢
 cases o with
 | some x =>
  exact zD30
 | none =>
  exact zD30
end Go.Proofs.YtmcggompdmngmaaGreatDoor
