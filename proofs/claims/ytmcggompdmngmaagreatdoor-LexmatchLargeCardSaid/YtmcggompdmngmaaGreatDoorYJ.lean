/- A part of the proof: K1 to K6. -/
import Derived.Test.YtmcggompdmngmaaGreatDoorYc
import Derived.Test.YtmcggompdmngmaaGreatDoorYt
import Derived.Test.YtmcggompdmngmaaGreatDoorYD
import Derived.Test.YtmcggompdmngmaaGreatDoorYx
set_option linter.all false
namespace Go.Proofs.YtmcggompdmngmaaGreatDoor
open Go.Ab Go.Rx Go.Wd
set_option maxHeartbeats 20000000
set_option maxRecDepth 100000
attribute [local irreducible] Run Ops Op1 z0u Val Tr z09 z0q NF Rel z1v z1u Go.Wd.nb Go.Wd.wN
theorem yan {P:Program} {f:FuncId} {R:z2p} {k:List Go.Item} {n:Nat} {tm:List (Nat × PV)} {hp:Hp} {up up':Hf} (e:up'=up) (h:Run P f R k ⟨n,tm,hp,up'⟩):Run P f R k ⟨n,tm,hp,up⟩:=e▸h
abbrev Dw6 (x:Int):D:=.lit (.int .u64 x)
abbrev zc7 (n:Nat) (p:Nat→Bool):Blk:=.row 108 1 (wds n p)
theorem q64 (j:Nat):((j:Nat):Int) / 64=((j / 64:Nat):Int):=by omega
theorem r64 (j:Nat):((j:Nat):Int) % 64=((j % 64:Nat):Int):=by omega
theorem y2w (j:Nat):IntKind.u64.wrap ((j:Int) % 64)=((j % 64:Nat):Int):=by rw[r64];exact zm9 (by omega) (by omega)
theorem y9i (n:Nat) (p:Nat→Bool) (j:Nat) (hj:j≤n) (hn:n≤1000000):z09 Tryz.prog 99 [.d (.slice (wds n p)),I .i64 (j:Nat)] (B (p j)):=by
 have hx:((wl n p).map u6)[((j / 64:Nat):Int).toNat]? =some (u6 (wN p (j / 64))):=by rw[zAd,zA9,zb9 _ _ (by omega)];rfl
 refine z0t fun H=>?_
 refine z06 Tryz.func99 (by kernel_rfl) rfl (by simp) ?_
 dsimp only[Tryz.f99]
 repeat' (first|(apply z04;(refine z08 (z1f rfl hx) rfl rfl ?_))|(apply z0o;(first|refine z08 (zo4 (by omega) (by decide) z16 (q64 j)) rfl rfl ?_| refine z08 (zvj (by omega) (by decide)) rfl rfl ?_| refine z08 (z8d (by omega)) rfl rfl ?_| refine z08 z3u rfl rfl ?_))|(apply z3t;(refine z08 (zld rfl rfl (y2w j)) rfl rfl ?_))|refine z01 ?_|fail)
 all_goals refine z02 Tryz.func99 _ z1d ⟨?_,rfl⟩
 all_goals rw[y0u]
theorem y8c (n:Nat) (p:Nat→Bool) (j:Nat) (hj:j≤n) (hn:n≤1000000) (m:Nm):z0q Tryz.prog 99 [.ref m,I .i64 (j:Nat)] [(m,zc7 n p)] [] (B (p j)):=by
 obtain⟨e,X⟩:=m
 have hx:((wl n p).map u6)[((j / 64:Nat):Int).toNat]? =some (u6 (wN p (j / 64))):=by rw[zAd,zA9,zb9 _ _ (by omega)];rfl
 refine z0v fun H hH=>?_
 have hX:H e X=some (zc7 n p):=hH ((e,X),zc7 n p) (by simp)
 refine z06 Tryz.func99 (by kernel_rfl) rfl (by simp) ?_
 dsimp only[Tryz.f99]
 repeat' (first|(apply z13;(refine z08 (z5q (m:=(e+1,X)) (e':=108) (kk:=1) hx rfl rfl rfl) rfl (bk1 hX) ?_))|(apply z04;(refine z08 (z1c (ys:=wds n p) (m:=(e+1,X)) (e':=108) (kk:=1) rfl (by rw[z57];omega)) rfl (bk1 hX) ?_))|(apply z0o;(first|refine z08 (zo4 (by omega) (by decide) z16 (q64 j)) rfl rfl ?_| refine z08 (zvj (by omega) (by decide)) rfl rfl ?_| refine z08 (z8d (by omega)) rfl rfl ?_| refine z08 z3u rfl rfl ?_))|(apply z3t;(refine z08 (zld rfl rfl (y2w j)) rfl rfl ?_))|refine z01 ?_|fail)
 all_goals refine z02 Tryz.func99 _ z1d ⟨?_,rfl⟩
 all_goals rw[y0u]
theorem y7b (n:Nat) (p:Nat→Bool) (j:Nat) (hj:j≤n) (hn:n≤1000000) (m:Nm):z0q Tryz.prog 137 [.ref m,I .i64 (j:Nat)] [(m,zc7 n p)] [(m,zc7 n (zho p j))] (.tup []):=by
 obtain⟨e,X⟩:=m
 have hx:(wl n p)[((j / 64:Nat):Int).toNat]? =some (wN p (j / 64)):=by rw[zA9,zb9 _ _ (by omega)]
 have hs:(wl n p).set ((j / 64:Nat):Int).toNat (wN (zho p j) (j / 64))=wl n (zho p j):=by rw[zA9,y7g n p hj]
 refine z0v fun H hH=>?_
 have hX:H e X=some (zc7 n p):=hH ((e,X),zc7 n p) (by simp)
 refine z06 Tryz.func137 (by kernel_rfl) rfl (by simp) ?_
 dsimp only[Tryz.f137]
 have hw:=y6q p j
 have hs':(wds n p).set ((j / 64:Nat):Int).toNat (z0b (u6 (wN p (j / 64))) 0 [Dw6 (orV .u64 (wN p (j / 64):Nat) (zeb .u64 1 ((j % 64:Nat):Int)))])=wds n (zho p j):=by
  rw[hw];show ((wl n p).map u6).set _ _=(wl n (zho p j)).map u6;rw[← hs,List.map_set];rfl
 have hx':(wds n p)[((j / 64:Nat):Int).toNat]? =some (u6 (wN p (j / 64))):=by rw[zAd,hx];rfl
 repeat' (first|(apply z13;(refine z08 (z5q (m:=(e+1,X)) (e':=108) (kk:=1) hx' rfl rfl rfl) rfl (bk1 hX) ?_))|(apply z04;(refine z08 (z1c (ys:=wds n p) (m:=(e+1,X)) (e':=108) (kk:=1) rfl (by rw[z57];omega)) rfl (bk1 hX) ?_))|(apply z0o;(first|refine z08 (zo4 (by omega) (by decide) z16 (q64 j)) rfl rfl ?_| refine z08 (zvj (by omega) (by decide)) rfl rfl ?_| refine z08 (zik (by omega)) rfl rfl ?_| refine z08 z8c rfl rfl ?_))|(apply z1q;(refine z83 (m:=(e+1,X)) (e:=108) (kk:=1) rfl hX rfl rfl hx' rfl rfl hs' rfl ?_))|(apply z3t;(refine z08 (zld rfl rfl (y2w j)) rfl rfl ?_))|refine z01 ?_|fail)
 all_goals exact z8e Tryz.func137 _ (z1o rfl) ⟨rfl,rfl⟩
theorem y11 (n:Nat) (p q:Nat→Bool) (hn:n≤1000000) (m:Nm):z0q Tryz.prog 141 [.ref m,.d (.slice (wds n q))] [(m,zc7 n p)] [(m,zc7 n (fun j=>p j||q j))] (.tup []):=by
 obtain⟨e,X⟩:=m
 refine z0v fun H hH=>?_
 have hX:H e X=some (zc7 n p):=hH ((e,X),zc7 n p) (by simp)
 refine z06 Tryz.func141 (by kernel_rfl) rfl (by simp) ?_
 dsimp only[Tryz.f141]
 repeat' (first|(apply z1k;(refine z08 (z4d (m:=(e+1,X)) (e':=108) (kk:=1) (ys:=wds n p) rfl) rfl (bk1 hX) ?_))|refine z01 ?_|fail)
 rw[z57]
 refine z0d ?_
 refine yan (up':=upd H (e,X) (.row 108 1 ((wj n p q 0).map u6))) (by rw[zqi];exact z6s hX) ?_
 refine z00 (z0p (fun k:Nat=>⟨21,[(0,.ref (e+1,X)),(1,.d (.slice (wds n q))),(6,I .i64 ((n / 64+1:Nat):Int)),(7,I .i64 (k:Nat))],[],upd H (e,X) (.row 108 1 ((wj n p q k).map u6))⟩) (fun k=>k≤n / 64+1) (fun k=>n / 64+1-k) ?_ 0 (zAf _)) rfl rfl
 intro k hk ih
 try simp only at hk ih ⊢
 by_cases hlt:k<n / 64+1
 · have ih':=ih (k+1) (by omega) (by omega)
   have hx:((wj n p q k).map u6)[((k:Nat):Int).toNat]? =some (u6 (wN p k)):=by rw[zAd,zA9,zeo _ _ _ _ hlt,zAy (Nat.lt_irrefl _)];rfl
   have hy:((wl n q).map u6)[((k:Nat):Int).toNat]? =some (u6 (wN q k)):=by rw[zAd,zA9,zb9 _ _ hlt];rfl
   have hw:=y2c p q k
   have hs:((wj n p q k).map u6).set ((k:Nat):Int).toNat (z0b (u6 (wN p k)) 0 [Dw6 (orV .u64 (wN p k:Nat) (wN q k:Nat))])=(wj n p q (k+1)).map u6:=by rw[hw,← zt7 n p q hlt,List.map_set];rfl
   have hX2:=z0y H (e,X) (.row 108 1 ((wj n p q k).map u6))
   repeat' (first | (apply z0c; (refine z0f (z5q (m := (e + 1, X)) (e' := 108) (kk := 1) hx rfl rfl rfl) rfl (bk1 hX2) ?_)) | (apply z05; (first | refine z0f (z1c (ys := (wj n p q k).map u6) (m := (e + 1, X)) (e' := 108) (kk := 1) rfl (by rw [zA4, zdb]; omega)) rfl (bk1 hX2) ?_| refine z0f (z1f rfl hy) rfl rfl ?_)) | (apply z1e; (refine z0f z8c rfl rfl ?_)) | (apply z1q; (refine z83 (m := (e + 1, X)) (e := 108) (kk := 1) rfl hX2 rfl rfl hx rfl rfl hs rfl ?_)) | (apply z0w; ((refine z5k mix (by kernel_rfl) ?_) /- z6e -/)) | refine z01 ?_ | refine fk (fun _ => ?_) (fun _ => ?_))
   all_goals try (exfalso;omega)
   simp only[z1t]
   repeat' (first|refine z01 ?_|fail)
   all_goals exact zD8
 · exact zD88
attribute [local irreducible] zkh zrx
abbrev zb7 (n:Nat) (a:Rl):Hp:=fam 165 108 (rlX n a)
abbrev z9i (n:Nat) (a:Rl):PV:=.d (y7s (rlX n a))
theorem y8f (n:Nat):rlX n ffR=List.replicate (n+1) (wds n fun _=>false):=by
 apply List.ext_getElem?
 intro s
 by_cases h:s<n+1
 · rw[z5r _ _ (by omega),List.getElem?_replicate,zAz h]
 · rw[zAv (by rw[z1b];omega),zAv (by simp;omega)]
theorem ybm (n:Nat):wds n (fun _=>false)=List.replicate (n / 64+1) [Dw6 0]:=by
 have:wl n (fun _=>false)=List.replicate (n / 64+1) 0:=(zn6 (by simp) fun s hs=>by rw[List.getElem?_replicate,zAz hs,ybl]).symm
 show (wl n fun _=>false).map u6=_
 rw[this,List.map_replicate];rfl
theorem z9s (n:Nat) (hn:n≤1000000):zkh Tryz.prog 135 [I .i64 (n:Nat)] (zb7 n ffR) (.ref (0,1000)):=by
 refine zts fun H hH=>?_
 refine z3p Tryz.func135 (by kernel_rfl) rfl (by simp) ?_
 dsimp only[Tryz.f135]
 have hM:List.replicate (((n:Nat):Int)+1).toNat [D.lit z2w]=(List.replicate (n+1) (D.lit z2w)).map fun x=>[x]:=by rw[show (((n:Nat):Int)+1).toNat=n+1 by omega,List.map_replicate]
 repeat' (first|(apply z1k;(refine z08 (z4d rfl) rfl rfl ?_))|refine z01 ?_|(apply z10;(refine y4a (a:=((n:Nat):Int)+1) (xs:=(List.replicate (n+1) (D.lit z2w)).map fun x=>[x]) rfl rfl (by omega) (by omega) rfl rfl rfl (by decide) (by exact hM) ?_)))
 rw[zA4,zAr]
 refine y9x 7 (xs:=List.replicate (n+1) (D.lit z2w)) rfl ?_
 rw[List.map_replicate]
 refine zv6 7 1000 rfl (by simp[Blk.says,zgk]) ?_
 refine z0d ?_
 refine z00 (z0p (fun k:Nat=>⟨22,[(0,I .i64 (n:Nat)),(3,.ref (0,1000)),(9,I .i64 ((n+1:Nat):Int)),(10,I .i64 (k:Nat))],zv5 165 108 (List.replicate k (wds n fun _=>false)) (n+1-k),H⟩) (fun k=>k≤n+1) (fun k=>n+1-k) ?_ 0 (zAf _)) rfl rfl
 intro k hk ih
 by_cases hlt:k<n+1
 · have ih':=ih (k+1) (by omega) (by omega)
   have hfr:(z0l 18 (zv5 165 108 (List.replicate k (wds n fun _=>false)) (n+1-k))&&z0n 18 [])=true:=by rw[zd3 (by decide)];rfl
   have hM2:List.replicate (((n / 64:Nat):Int)+1).toNat [Dw6 0]=wds n fun _=>false:=by rw[show (((n / 64:Nat):Int)+1).toNat=n / 64+1 by omega,ybm]
   repeat' (first|(apply z04;(refine z08 (z3x rfl (by omega) (by rw[zAa,z1j,zAr,zAr];omega) rfl) rfl rfl ?_))|(apply z0o;(refine z08 (zo4 (by omega) (by decide) z16 (q64 n)) rfl rfl ?_))|(apply z1q;(refine ztj rfl rfl rfl rfl rfl (by rw[zAa,z1j,zAr,zAr];omega) rfl ?_))|(apply zrq;(refine zrn (a:=((n / 64:Nat):Int)+1) (xs:=wds n fun _=>false) rfl rfl (by omega) (by omega) rfl rfl (by rw[zd3 (by decide)];rfl) (by decide) (by exact hM2) ?_))|refine z01 ?_|refine fk (fun _=>?_) (fun _=>?_))
   all_goals try (exfalso;omega)
   all_goals rw[show n+1-(k+1)=n-k by omega] at ih'
   all_goals rw[List.replicate_succ'] at ih'
   all_goals refine zy5 18 (m:=n-k) (X:=List.replicate k (wds n fun _=>false)) (xs:=wds n fun _=>false) (by decide) rfl ?_ (fun s hs=>?_) ih' rfl rfl (by simp[z2n,PV.says];omega)
   · rw[Ab.look,zAz rfl]
     simp only[zAr,zA9,show n+1-k=n-k+1 by omega]
   · rw[Ab.look,zAy (by omega),Ab.look,zAy (by omega),zv5,Ab.look,zAy (by omega)]
 · obtain rfl:k=n+1:=by omega
   rw[Nat.sub_self,zhs,← y8f]
   repeat' (first|refine z01 ?_|refine fk (fun _=>?_) (fun _=>?_))
   all_goals try (exfalso;omega)
   all_goals exact zns (X:=rlX n ffR) Tryz.func135 rfl rfl (z5v _) (fun j xs h=>z4y h) hH rfl
def idk (k:Nat):Rl:=fun i j=>decide (i<k)&&i == j
theorem zwe:idk 0=ffR:=by funext i j;simp[idk]
theorem y29 (n:Nat):rlX n (idk (n+1))=rlX n idR:=by
 refine List.map_congr_left fun i hi=>?_
 rw[List.mem_range] at hi
 congr 2
 funext j
 simp[idk,idR,hi]
theorem zwi (k:Nat):znz (idk k) k (zho (idk k k) k)=idk (k+1):=by
 funext i j
 simp only[znz]
 by_cases h:i=k
 · subst h
   rw[zAz rfl,zho]
   simp[idk,Bool.beq_comm (a:=j)]
 · rw[zAy h,idk,idk]
   exact zD95
theorem z92 {n:Nat} {a:Rl} {i:Nat} (h:i≤n):(z8q 0 (rlX n a).length)[i]? =some (.ref (0,5000+i)):=by rw[z4m,z1b,zAz (by omega),Nat.zero_add]
theorem zzz (n:Nat) (hn:n≤1000000):zkh Tryz.prog 138 [I .i64 (n:Nat)] (zb7 n idR) (.ref (0,1000)):=by
 refine zts fun H hH=>?_
 refine z3p Tryz.func138 (by kernel_rfl) rfl (by simp) ?_
 dsimp only[Tryz.f138]
 have hnw:=z9s n hn
 repeat' (first|(apply z1k;(refine z08 (zm0 (m:=(0,1000)) (e':=165) (cs:=z8q 0 (rlX n ffR).length) rfl) rfl rfl ?_))|(apply z03;(refine zr3 (first:=[]) (cap:=[]) hnw rfl rfl (fun s q _=>⟨rfl,rfl⟩) (by decide) ?_))|refine z01 ?_|fail)
 rw[z1j,z1b]
 refine z0d ?_
 rw[← zwe]
 refine zjq (z0p (fun k:Nat=>⟨20,[(3,.ref (0,1000)),(8,I .i64 ((n+1:Nat):Int)),(9,I .i64 (k:Nat))],zb7 n (idk k)++[],H⟩) (fun k=>k≤n+1) (fun k=>n+1-k) ?_ 0 (zAf _)) rfl
 intro k hk ih
 by_cases hlt:k<n+1
 · have ih':=ih (k+1) (by omega) (by omega)
   have hc:=z92 (n:=n) (a:=idk k) (show k≤n by omega)
   have hrow:=z4y (e:=165) (e0:=108) (z5r n (idk k) (show k≤n by omega))
   have hadd:=y7b n (idk k k) k (by omega) hn (0,5000+k)
   repeat' (first|(apply z13;(refine z08 (z4l hc rfl rfl) rfl rfl ?_))|(apply z04;(refine z08 (z3x rfl (by omega) (by rw[z1j,z1b];omega) rfl) rfl rfl ?_))|(apply z03;(refine zjj hadd rfl (by rw[z2q,hrow];rfl) (by decide) ?_))|refine z01 ?_|refine fk (fun _=>?_) (fun _=>?_))
   all_goals try (exfalso;omega)
   rw[show zb7 n (idk (k+1))=fam 165 108 ((rlX n (idk k)).set k (wds n (zho (idk k k) k))) by rw[zdh,zwi]] at ih'
   refine zfw (i:=k) (X:=rlX n (idk k)) (rest:=[]) (by rw[z1b];omega) ?_ (fun s b hs hb=>?_) ih' rfl
   · rw[Ab.look,zAz rfl]
   · rw[Ab.look,zAy (Ne.symm hs)];exact hb
 · obtain rfl:k=n+1:=by omega
   rw[List.append_nil,show zb7 n (idk (n+1))=zb7 n idR from congrArg (fam 165 108) (y29 n)]
   repeat' (first|refine z01 ?_|refine fk (fun _=>?_) (fun _=>?_))
   all_goals try (exfalso;omega)
   all_goals exact zns (X:=rlX n idR) Tryz.func138 rfl rfl (z5v _) (fun j xs h=>z4y h) hH rfl
def orK (a b:Rl) (k:Nat):Rl:=fun i j=>a i j||(decide (i<k)&&b i j)
theorem zyh (a b:Rl):orK a b 0=a:=by funext i j;simp[orK]
theorem y55 (n:Nat) (a b:Rl):rlX n (orK a b (n+1))=rlX n (orR a b):=by
 refine List.map_congr_left fun i hi=>?_
 rw[List.mem_range] at hi
 congr 2
 funext j
 simp[orK,orR,hi]
theorem zxc (a b:Rl) (k:Nat):znz (orK a b k) k (fun j=>orK a b k k j||b k j)=orK a b (k+1):=by
 funext i j
 simp only[znz]
 by_cases h:i=k
 · subst h;simp[orK]
 · rw[zAy h,orK,orK]
   exact zD95
theorem zyd {H:Hf} {n:Nat} {a:Rl} (h:H 0 1000=some (.rowp 165 (z8q 0 (n+1)))):zbl H (zed 108 0 (rlX n a))=zbl H (zb7 n a):=by
 funext d s
 cases d with
 | succ d=>rfl
 | zero =>
  simp only[zbl,fam,Ab.look]
  split
  · rename_i h1;subst h1
    rw[z3f,zAy (by omega),z1b];exact h
  · rfl
theorem zha {n:Nat} {a:Rl} {i:Nat} (h:i≤n):((rlX n a).map fun xs=>[D.slice xs])[((i:Nat):Int).toNat]? =some [D.slice (wds n (a i))]:=by rw[zAd,zA9,z5r n a h];rfl
theorem yaf (n:Nat) (hn:n≤1000000) (a b:Rl):zrx Tryz.prog 140 [.ref (0,1000),z9i n b] (zb7 n a) (zb7 n (orR a b)) (.tup []):=by
 refine y2i fun H hH=>?_
 refine z06 Tryz.func140 (by kernel_rfl) rfl (by simp) ?_
 dsimp only[Tryz.f140]
 have h1000:H 0 1000=some (.rowp 165 (z8q 0 (rlX n a).length)):=hH _ _ (z5v _)
 repeat' (first|(apply z1k;(refine z08 (zm0 (m:=(1,1000)) (e':=165) (cs:=z8q 0 (rlX n a).length) rfl) rfl (bk1 h1000) ?_))|refine z01 ?_|fail)
 rw[z1j,z1b] at *
 refine z0d ?_
 refine yan (up':=zbl H (zed 108 0 (rlX n (orK a b 0)))) (by rw[zyh];exact zjf (e:=165) hH) ?_
 refine zjq (z0p (fun k:Nat=>⟨20,[(0,.ref (1,1000)),(1,z9i n b),(6,I .i64 ((n+1:Nat):Int)),(7,I .i64 (k:Nat))],[],zbl H (zed 108 0 (rlX n (orK a b k)))⟩) (fun k=>k≤n+1) (fun k=>n+1-k) ?_ 0 (zAf _)) rfl
 intro k hk ih
 by_cases hlt:k<n+1
 · have ih':=ih (k+1) (by omega) (by omega)
   have hU:(zbl H (zed 108 0 (rlX n (orK a b k)))) 0 1000=some (.rowp 165 (z8q 0 (n+1))):=by simp[zbl,z3f,h1000]
   have hR:(zbl H (zed 108 0 (rlX n (orK a b k)))) 0 (5000+k)=some (zc7 n (orK a b k k)):=by simp[zbl,z3f,z5r n _ (show k≤n by omega)]
   have hc:(z8q 0 (n+1))[k]? =some (.ref (0,5000+k)):=by rw[z4m,zAz hlt,Nat.zero_add]
   have hj:=y11 n (orK a b k k) (b k) hn (1,5000+k)
   have hb:=zha (n:=n) (a:=b) (show k≤n by omega)
   repeat' (first | (apply z0c; (refine z0f (zqw (cs := z8q 0 (n + 1)) (md := 0) (ms := 1000) (e' := 165) hc rfl rfl rfl) rfl (bk1 hU) ?_)) | (apply z05; (first | refine z0f (zop (cs := z8q 0 (n + 1)) (md := 0) (ms := 1000) (e' := 165) rfl (by omega) (by rw [z1j]; omega) rfl) rfl (bk1 hU) ?_| refine z0f (z1f rfl hb) rfl rfl ?_)) | (apply z03; (refine zu6 hj rfl hR (by decide) ?_)) | (apply z0m; ((refine z5k mix (by kernel_rfl) ?_) /- zdj -/)) | refine z01 ?_ | refine fk (fun _ => ?_) (fun _ => ?_))
   all_goals try (exfalso;omega)
   rw[zxt (by rw[z1b];omega),zdh,zxc]
   exact zjq ih' rfl
 · obtain rfl:k=n+1:=by omega
   rw[y55]
   repeat' (first|refine z01 ?_|refine fk (fun _=>?_) (fun _=>?_))
   all_goals try (exfalso;omega)
   all_goals exact z8e Tryz.func140 _ (z1o rfl) ⟨rfl,zyd h1000⟩
def thS (n:Nat) (a b:Rl) (i k:Nat):Rl:=fun i'=>zqe a b i' (if i'<i then n+1 else if i'=i then k else 0)
theorem zxl (n:Nat) (a b:Rl):thS n a b 0 0=ffR:=by
 funext i j
 simp[thS,zqe,ffR]
theorem zww (n:Nat) (a b:Rl) (i:Nat):thS n a b i (n+1)=thS n a b (i+1) 0:=by
 funext i' j
 simp only[thS]
 by_cases h:i'<i
 · rw[zAz h,zAz (by omega)]
 · rw[zAy h]
   by_cases h2:i'=i
   · rw[zAz h2,zAz (by omega)]
   · rw[zAy h2,zAy (by omega)]
     split <;> rfl
theorem y4r (n:Nat) (a b:Rl):rlX n (thS n a b (n+1) 0)=rlX n (zpl n a b):=by
 refine List.map_congr_left fun i hi=>?_
 rw[List.mem_range] at hi
 simp only[thS,zpl]
 rw[zAz hi]
theorem zm1 (n:Nat) (a b:Rl) (i k:Nat):thS n a b i k i=zqe a b i k:=by simp[thS]
theorem ziu (a b:Rl) (i k:Nat):zqe a b i (k+1)=fun j=>zqe a b i k j||(a i k&&b k j):=by
 funext j;simp[zqe,List.range_succ]
theorem y4t (n:Nat) (a b:Rl) {i k:Nat} (h:a i k=true):znz (thS n a b i k) i (fun j=>zqe a b i k j||b k j)=thS n a b i (k+1):=by
 funext i' j
 simp only[znz]
 by_cases h2:i'=i
 · subst h2;rw[zAz rfl,zm1,ziu,h];simp
 · rw[zAy h2]
   simp only[thS]
   rw[zAy h2,zAy h2]
theorem y8q (n:Nat) (a b:Rl) {i k:Nat} (h:a i k=false):thS n a b i k=thS n a b i (k+1):=by
 funext i' j
 by_cases h2:i'=i
 · subst h2;rw[zm1,zm1,ziu,h];simp
 · simp only[thS]
   rw[zAy h2,zAy h2]
theorem zoa (n:Nat) (hn:n≤1000000) (a b:Rl):z09 Tryz.prog 139 [z9i n a,z9i n b] (z9i n (zpl n a b)):=by
 refine z0t fun H=>?_
 refine z06 Tryz.func139 (by kernel_rfl) rfl (by simp) ?_
 dsimp only[Tryz.f139]
 have hnw:=z9s n hn
 have hsub:((rlX n a).length:Int)-1=((n:Nat):Int):=by rw[z1b];omega
 repeat' (first|(apply z0o;(refine z08 (y7y z16 hsub) rfl rfl ?_))|(apply z03;(refine zr3 (first:=[]) (cap:=[]) hnw rfl rfl (fun s q _=>⟨rfl,rfl⟩) (by decide) ?_))|refine z01 ?_|fail)
 rw[z1b,← zxl n a b]
 refine z0d ?_
 refine zjq (z0p (fun i:Nat=>⟨40,[(0,z9i n a),(1,z9i n b),(5,.ref (0,1000)),(13,I .i64 ((n+1:Nat):Int)),(14,I .i64 (i:Nat))],zb7 n (thS n a b i 0)++[],H⟩) (fun i=>i≤n+1) (fun i=>n+1-i) ?_ 0 (zAf _)) rfl
 intro i hi ih
 by_cases hlt:i<n+1
 · have ih':=ih (i+1) (by omega) (by omega)
   have ha:=zha (n:=n) (a:=a) (show i≤n by omega)
   repeat' (first|refine z01 ?_|refine fk (fun _=>?_) (fun _=>?_))
   all_goals try (exfalso;omega)
   rw[z1b]
   refine z0d ?_
   refine zjq (z0p (fun k:Nat=>⟨40,[(0,z9i n a),(1,z9i n b),(5,.ref (0,1000)),(6,I .i64 (i:Nat)),(13,I .i64 ((n+1:Nat):Int)),(14,I .i64 (i:Nat)),(18,I .i64 ((n+1:Nat):Int)),(19,I .i64 (k:Nat))],zb7 n (thS n a b i k)++[],H⟩) (fun k=>k≤n+1) (fun k=>n+1-k) ?_ 0 (zAf _)) rfl
   intro k hk ihk
   by_cases hlk:k<n+1
   · have ihk':=ihk (k+1) (by omega) (by omega)
     have hb:=zha (n:=n) (a:=b) (show k≤n by omega)
     have hh:=y9i n (a i) k (by omega) hn
     have hc:=z92 (n:=n) (a:=thS n a b i k) (show i≤n by omega)
     have hrow:=z4y (e:=165) (e0:=108) (z5r n (thS n a b i k) (show i≤n by omega))
     rw[zm1] at hrow
     have hj:=y11 n (zqe a b i k) (b k) hn (0,5000+i)
     cases hab:a i k with
     | true =>
      rw[hab] at hh
      repeat' (first | (apply z0c; (refine z0f (z4l hc rfl rfl) rfl rfl ?_)) | (apply z04; (refine z08 (z1f rfl ha) rfl rfl ?_)) | (apply z05; (first | refine z0f (z1f rfl hb) rfl rfl ?_| refine z0f (z3x rfl (by omega) (by rw [z1j, z1b]; omega) rfl) rfl rfl ?_)) | (apply z03; (first | refine zjj hj rfl (by rw [z2q, hrow]; rfl) (by decide) ?_ | refine z1n hh ?_)) | (apply z0m; ((refine z5k mix (by kernel_rfl) ?_) /- zdj -/)) | refine z01 ?_ | refine fk (fun _ => ?_) (fun _ => ?_))
      all_goals try (exfalso;omega)
      rw[show zb7 n (thS n a b i (k+1))=fam 165 108 ((rlX n (thS n a b i k)).set i (wds n (fun j=>zqe a b i k j||b k j))) by rw[zdh,y4t n a b hab]] at ihk'
      refine zfw (i:=i) (X:=rlX n (thS n a b i k)) (rest:=[]) (by rw[z1b];omega) ?_ (fun s b hs hb=>?_) ihk' rfl
      · rw[Ab.look,zAz rfl]
      · rw[Ab.look,zAy (Ne.symm hs)];exact hb
     | false =>
      rw[hab] at hh
      repeat' (first|(apply z04;(refine z08 (z1f rfl ha) rfl rfl ?_))|(apply z03;(refine z1n hh ?_))|refine z01 ?_|refine fk (fun _=>?_) (fun _=>?_))
      all_goals try (exfalso;omega)
      rw[← y8q n a b hab] at ihk'
      exact zjq ihk' rfl
   · obtain rfl:k=n+1:=by omega
     rw[← zww] at ih'
     repeat' (first|refine z01 ?_|refine fk (fun _=>?_) (fun _=>?_))
     all_goals try (exfalso;omega)
     exact zjq ih' rfl
 · obtain rfl:i=n+1:=by omega
   rw[List.append_nil,show zb7 n (thS n a b (n+1) 0)=zb7 n (zpl n a b) from congrArg (fam 165 108) (y4r n a b)]
   repeat' (first|refine z01 ?_|refine fk (fun _=>?_) (fun _=>?_))
   all_goals try (exfalso;omega)
   all_goals refine zmy (X:=rlX n (zpl n a b)) (tm':=[(4,z9i n (zpl n a b))]) (hp':=[]) (z5v _) (fun j xs h=>z4y h) (fun t p h=>?_) (fun s b h=>by simp[Ab.look] at h) ?_
   · simp only[Ab.look] at h
     split at h
     · rename_i e;subst e;simp at h;subst h;exact .inr ⟨rfl,rfl⟩
     · cases h
   · exact z02 Tryz.func139 _ z1d ⟨rfl,rfl⟩
theorem za5 (r:Int) (h0:-1000≤r) (h1:r≤1114111):z09 Tryz.prog 178 [I .i32 r] (I .i32 (z5t r)):=by
 refine z0t fun H=>?_
 refine z06 Tryz.func178 (by kernel_rfl) rfl (by simp) ?_
 dsimp only[Tryz.f178]
 rw[z5t]
 by_cases hc:zua r
 · rw[zAz hc]
   rw[zua] at hc
   all_goals exact zD38
 · rw[zAy hc]
   rw[zua] at hc
   by_cases hd:1024≤r∧r≤1039
   · rw[zAz hd]
     all_goals exact zD38
   · rw[zAy hd]
     all_goals exact zD38
def rv3 (f:Int) (r:Int × Int):Bool:=([f,f-32,f-80]:List Int).any fun x=>decide (z5t x=f)&&decide (r.1≤x)&&decide (x≤r.2)
def rok (fold:Bool) (c:Int) (rs:List (Int × Int)):Bool:=rs.any fun r=>(decide (r.1≤c)&&decide (c≤r.2))||(fold&&rv3 (z5t c) r)
theorem y1f {P:Program} {f:FuncId} {R:z2p} {k:List Go.Item} {n:Nat} {tm:List (Nat × PV)} {hp:Hp} {up:Hf} (t:Nat) {p q:PV} (e:p=q) (ht:Ab.look tm t=some p:=by rfl) (h:Run P f R k ⟨n,(t,q)::tm,hp,up⟩):Run P f R k ⟨n,tm,hp,up⟩:=by
 subst e
 refine zba (tm':=(t,p)::tm) (fun u r hu=>?_) (fun _ _ h=>h) h
 simp only[Ab.look] at hu
 split at hu
 · rename_i e;subst e;rw[ht,hu]
 · exact hu
theorem y3x {c:Int} (h0:0≤c) (h1:c≤1114111):0≤z5t c∧z5t c≤1114111:=by
 rw[z5t];simp only[zua];repeat' split
 all_goals omega
theorem zk2 (l:List (Int × Int)) (hl:l.length≤9223372036854775807) (c:Int) (h0:0≤c) (h1:c≤1114111) (fold:Bool):z09 Tryz.prog 136 [.d (rgs l),I .i32 c,B fold] (B (rok fold c l)):=by
 refine z0t fun H=>?_
 refine z06 Tryz.func136 (by kernel_rfl) rfl (by simp) ?_
 dsimp only[Tryz.f136]
 have hf:=za5 c (by omega) h1
 obtain⟨f0,f1⟩:=y3x h0 h1
 obtain⟨f,hfe⟩:∃ f,z5t c=f:=⟨_,rfl⟩
 rw[rok]
 rw[hfe] at hf f0 f1 ⊢
 repeat' (first|(apply z03;(refine z1n hf ?_))|refine z01 ?_|fail)
 refine z0d ?_
 obtain⟨P,hP⟩:∃ P,(fun r:Int × Int=>(decide (r.1≤c)&&decide (c≤r.2))||(fold&&rv3 f r))=P:=⟨_,rfl⟩
 rw[hP]
 refine z00 (z0p (fun i:Nat=>⟨61,[(1,I .i32 c),(2,B fold),(7,I .i32 f),(14,.d (rgs l)),(15,I .i64 l.length),(16,I .i64 (i:Nat))],[],H⟩) (fun i=>i≤l.length∧(l.drop i).any P=l.any P) (fun i=>l.length-i) ?_ 0 ⟨zAf _,rfl⟩) rfl rfl
 rintro i ⟨hi,hI⟩ ih
 by_cases hlt:i<l.length
 · obtain⟨r,hx⟩:∃ r,l[i]? =some r:=⟨_,zA0 hlt⟩
   rw[drop_cons hx,List.any_cons] at hI
   have hPr:P r=((decide (r.1≤c)&&decide (c≤r.2))||(fold&&rv3 f r)):=by rw[← hP]
   rw[hPr] at hI
   by_cases hin:r.1≤c∧c≤r.2
   · rw[zAi hin.1,zAi hin.2] at hI
     simp only[Bool.and_self,Bool.true_or] at hI
     rw[← hI]
     repeat' (first|(apply z04;(refine z08 (z1f (ys:=l.map rgc) rfl (idx hx)) rfl rfl ?_))|refine z01 ?_|refine fk (fun _=>?_) (fun _=>?_))
     all_goals try (exfalso;omega)
     all_goals exact z02 Tryz.func136 _ z1d ⟨rfl,rfl⟩
   · have h0:(decide (r.1≤c)&&decide (c≤r.2))=false:=by
      rw[Bool.and_eq_false_iff,zA5,zA5];omega
     rw[h0,Bool.false_or] at hI
     cases fold with
     | false =>
      rw[Bool.false_and,Bool.false_or] at hI
      have ih':=ih (i+1) ⟨by omega,hI⟩ (by omega)
      repeat' (first|(apply z04;(refine z08 (z1f (ys:=l.map rgc) rfl (idx hx)) rfl rfl ?_))|refine z01 ?_|refine fk (fun _=>?_) (fun _=>?_))
      all_goals exact zD8
     | true =>
      rw[Bool.true_and] at hI
      obtain⟨vs,hvs'⟩:∃ vs,([f,f-32,f-80]:List Int)=vs:=⟨_,rfl⟩
      have hvs:=hvs'.symm
      obtain⟨Q,hQ⟩:∃ Q,(fun x=>decide (z5t x=f)&&decide (r.1≤x)&&decide (x≤r.2))=Q:=⟨_,rfl⟩
      by_cases g1:r.1≤c
      · exact zD4
      · exact zD4
 · obtain rfl:i=l.length:=by omega
   rw[zAs,List.any_nil] at hI
   rw[← hI]
   repeat' (first|refine z01 ?_|refine fk (fun _=>?_) (fun _=>?_))
   all_goals try (exfalso;omega)
   all_goals exact z02 Tryz.func136 _ z1d ⟨rfl,rfl⟩
theorem y2n (n:Nat) (p q:Nat→Bool) (hn:n≤1000000) (X Y:Nat) (hXY:X≠Y):z0q Tryz.prog 141 [.ref (0,X),.ref (0,Y)] [((0,X),zc7 n p),((0,Y),zc7 n q)] [((0,X),zc7 n (fun j=>p j||q j))] (.tup []):=by
 refine z0v fun H hH=>?_
 have hX:H 0 X=some (zc7 n p):=hH ((0,X),zc7 n p) (by simp)
 have hY:H 0 Y=some (zc7 n q):=hH ((0,Y),zc7 n q) (by simp)
 refine z06 Tryz.func141 (by kernel_rfl) rfl (by simp) ?_
 dsimp only[Tryz.f141]
 repeat' (first|(apply z1k;(refine z08 (z4d (m:=(1,X)) (e':=108) (kk:=1) (ys:=wds n p) rfl) rfl (bk1 hX) ?_))|refine z01 ?_|fail)
 rw[z57]
 refine z0d ?_
 refine yan (up':=upd H (0,X) (.row 108 1 ((wj n p q 0).map u6))) (by rw[zqi];exact z6s hX) ?_
 refine z00 (z0p (fun k:Nat=>⟨21,[(0,.ref (1,X)),(1,.ref (1,Y)),(6,I .i64 ((n / 64+1:Nat):Int)),(7,I .i64 (k:Nat))],[],upd H (0,X) (.row 108 1 ((wj n p q k).map u6))⟩) (fun k=>k≤n / 64+1) (fun k=>n / 64+1-k) ?_ 0 (zAf _)) rfl rfl
 intro k hk ih
 by_cases hlt:k<n / 64+1
 · have ih':=ih (k+1) (by omega) (by omega)
   have hx:((wj n p q k).map u6)[((k:Nat):Int).toNat]? =some (u6 (wN p k)):=by rw[zAd,zA9,zeo _ _ _ _ hlt,zAy (Nat.lt_irrefl _)];rfl
   have hy:((wl n q).map u6)[((k:Nat):Int).toNat]? =some (u6 (wN q k)):=by rw[zAd,zA9,zb9 _ _ hlt];rfl
   have hw:=y2c p q k
   have hs:((wj n p q k).map u6).set ((k:Nat):Int).toNat (z0b (u6 (wN p k)) 0 [Dw6 (orV .u64 (wN p k:Nat) (wN q k:Nat))])=(wj n p q (k+1)).map u6:=by rw[hw,← zt7 n p q hlt,List.map_set];rfl
   have hX2:=z0y H (0,X) (.row 108 1 ((wj n p q k).map u6))
   have hY2:(upd H (0,X) (.row 108 1 ((wj n p q k).map u6))) 0 Y=some (zc7 n q):=by rw[zdz H (0,X) (0,Y) _ (by simpa using Ne.symm hXY)];exact hY
   repeat' (first | (apply z0c; (first | refine z0f (z5q (m := (1, X)) (e' := 108) (kk := 1) hx rfl rfl rfl) rfl (bk1 hX2) ?_| refine z0f (z5q (m := (1, Y)) (e' := 108) (kk := 1) hy rfl rfl rfl) rfl (bk1 hY2) ?_)) | (apply z05; (first | refine z0f (z1c (ys := (wj n p q k).map u6) (m := (1, X)) (e' := 108) (kk := 1) rfl (by rw [zA4, zdb]; omega)) rfl (bk1 hX2) ?_| refine z0f (z1c (ys := wds n q) (m := (1, Y)) (e' := 108) (kk := 1) rfl (by rw [z57]; omega)) rfl (bk1 hY2) ?_)) | (apply z1e; (refine z0f z8c rfl rfl ?_)) | (apply z1q; (refine z83 (m := (1, X)) (e := 108) (kk := 1) rfl hX2 rfl rfl hx rfl rfl hs rfl ?_)) | (apply z0w; ((refine z5k mix (by kernel_rfl) ?_) /- z6e -/)) | refine z01 ?_ | refine fk (fun _ => ?_) (fun _ => ?_))
   all_goals try (exfalso;omega)
   simp only[z1t]
   repeat' (first|refine z01 ?_|fail)
   all_goals exact zD8
 · exact zD88
theorem y56 (n:Nat) (p:Nat→Bool) (hn:n≤1000000) (X:Nat):z0q Tryz.prog 141 [.ref (0,X),.ref (0,X)] [((0,X),zc7 n p)] [((0,X),zc7 n (fun j=>p j||p j))] (.tup []):=by
 refine z0v fun H hH=>?_
 have hX:H 0 X=some (zc7 n p):=hH ((0,X),zc7 n p) (by simp)
 refine z06 Tryz.func141 (by kernel_rfl) rfl (by simp) ?_
 dsimp only[Tryz.f141]
 repeat' (first|(apply z1k;(refine z08 (z4d (m:=(1,X)) (e':=108) (kk:=1) (ys:=wds n p) rfl) rfl (bk1 hX) ?_))|refine z01 ?_|fail)
 rw[z57]
 refine z0d ?_
 refine z00 (z0p (fun k:Nat=>⟨21,[(0,.ref (1,X)),(1,.ref (1,X)),(6,I .i64 ((n / 64+1:Nat):Int)),(7,I .i64 (k:Nat))],[],H⟩) (fun k=>k≤n / 64+1) (fun k=>n / 64+1-k) ?_ 0 (zAf _)) rfl rfl
 intro k hk ih
 by_cases hlt:k<n / 64+1
 · have ih':=ih (k+1) (by omega) (by omega)
   have hx:(wds n p)[((k:Nat):Int).toNat]? =some (u6 (wN p k)):=by rw[zAd,zA9,zb9 _ _ hlt];rfl
   have hw:orV .u64 (wN p k:Nat) (wN p k:Nat)=((wN p k:Nat):Int):=by
    rw[y2c]
    have:orP p p=p:=by funext j;simp[orP]
    rw[this]
   have hs:(wds n p).set ((k:Nat):Int).toNat (z0b (u6 (wN p k)) 0 [Dw6 (orV .u64 (wN p k:Nat) (wN p k:Nat))])=wds n p:=by
    rw[hw]
    apply List.ext_getElem?
    intro s
    by_cases h:((k:Nat):Int).toNat=s
    · rw[← h,zAp (by rw[z57];omega),hx];rfl
    · rw[List.getElem?_set_ne h]
   repeat' (first | (apply z0c; (refine z0f (z5q (m := (1, X)) (e' := 108) (kk := 1) hx rfl rfl rfl) rfl (bk1 hX) ?_)) | (apply z05; (refine z0f (z1c (ys := wds n p) (m := (1, X)) (e' := 108) (kk := 1) rfl (by rw [z57]; omega)) rfl (bk1 hX) ?_)) | (apply z1e; (refine z0f z8c rfl rfl ?_)) | (apply z1q; (refine z83 (m := (1, X)) (e := 108) (kk := 1) rfl hX rfl rfl hx rfl rfl hs rfl ?_)) | (apply z0w; ((refine z5k mix (by kernel_rfl) ?_) /- z6e -/)) | refine z01 ?_ | refine fk (fun _ => ?_) (fun _ => ?_))
   all_goals try (exfalso;omega)
   have hU:upd H (0,X) (.row 108 1 (wds n p))=H:=z6s hX
   simp only[hU]
   repeat' (first|refine z01 ?_|fail)
   all_goals exact zD8
 · obtain rfl:k=n / 64+1:=by omega
   repeat' (first|refine z01 ?_|refine fk (fun _=>?_) (fun _=>?_))
   all_goals try (exfalso;omega)
   all_goals refine z8e Tryz.func141 _ (z1o rfl) ⟨rfl,?_⟩
   have e:(fun j=>p j||p j)=p:=by funext j;simp
   rw[e]
   exact(z6s hX).symm
end Go.Proofs.YtmcggompdmngmaaGreatDoor
