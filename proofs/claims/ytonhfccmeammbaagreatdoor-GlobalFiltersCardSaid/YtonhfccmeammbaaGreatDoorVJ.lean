/- A part. -/
import Derived.Test.YtonhfccmeammbaaGreatDoorVt
import Derived.Test.YtonhfccmeammbaaGreatDoorVD
set_option linter.all false
open Go.Proofs.Tryz
namespace Go.Proofs.YtonhfccmeammbaaGreatDoor
open Go.Ab Go.Rx Go.Wd
set_option maxHeartbeats 20000000
set_option maxRecDepth 100000
attribute [local irreducible] Run Ops Op1 z1z Val Tr z0q z1v NF Rel z5c z5d Go.Wd.nb Go.Wd.wN
theorem y55{P:Program}{f:FuncId}{R:z4b}{k:List Go.Item}{n:Nat}{tm:List (Nat × PV)}{hp:Hp}{up up':Hf}(e:up'=up)(h:Run P f R k ⟨n,tm,hp,up'⟩):Run P f R k ⟨n,tm,hp,up⟩:=e▸h
abbrev Dw6(x:Int):D:=.lit (.int .u64 x)
abbrev zdc(n:Nat)(p:Nat→Bool):Blk:=.row 182 1 (wds n p)
theorem q64(j:Nat):((j:Nat):Int) / 64=((j / 64:Nat):Int):=by omega
theorem r64(j:Nat):((j:Nat):Int) % 64=((j % 64:Nat):Int):=by omega
theorem zyf(j:Nat):IntKind.u64.wrap ((j:Int) % 64)=((j % 64:Nat):Int):=by rw[r64];exact y3a (by omega) (by omega)
theorem y3b(n:Nat)(p:Nat→Bool)(j:Nat)(hj:j≤n)(hn:n≤1000000):z0q prog 162 [.d (.slice (wds n p)),I .i64 (j:Nat)] (B (p j)):=by
 have hx:((wl n p).map u6)[((j / 64:Nat):Int).toNat]? =some (u6 (wN p (j / 64))):=by rw[zAd,zA9,zcq _ _ (by omega)];rfl
 refine z0y fun H=>?_
 refine z0g func162 (by kernel_rfl) rfl (by simp) ?_
 dsimp only[f162]
 repeat' first|(apply z05;first|refine z0n ?_| (apply z0a;refine z02 z2f rfl rfl ?_)|(apply z0k;refine z02 (z1a rfl hx) rfl rfl ?_)|(apply z0t;first|refine z02 (zlo (by omega) (by decide) z1h (q64 j)) rfl rfl ?_| refine z02 (zqb (by omega) (by decide)) rfl rfl ?_| refine z02 (zgs (by omega)) rfl rfl ?_| refine z02 z8s rfl rfl ?_)|(apply z9u;refine z02 (zjw rfl rfl (zyf j)) rfl rfl ?_))|(apply z06;first|refine z0m ?_|apply z09)|(apply z07;first|apply z08|apply z00)
 all_goals refine z0e func162 _ z0p ⟨?_,rfl⟩
 all_goals rw[zx2]
theorem y22(n:Nat)(p:Nat→Bool)(j:Nat)(hj:j≤n)(hn:n≤1000000)(m:Nm):z1v prog 162 [.ref m,I .i64 (j:Nat)] [(m,zdc n p)] [] (B (p j)):=by
 obtain⟨e,X⟩:=m
 have hx:((wl n p).map u6)[((j / 64:Nat):Int).toNat]? =some (u6 (wN p (j / 64))):=by rw[zAd,zA9,zcq _ _ (by omega)];rfl
 refine z2a fun H hH=>?_
 have hX:H e X=some (zdc n p):=hH ((e,X),zdc n p) (by simp)
 refine z0g func162 (by kernel_rfl) rfl (by simp) ?_
 dsimp only[f162]
 repeat' first|(apply z05;first|refine z0n ?_| (apply z0a;refine z02 (z96 (m:=(e+1,X)) (e':=182) (kk:=1) hx rfl rfl rfl) rfl (bk1 hX) ?_)|(apply z0k;refine z02 (z4r (ys:=wds n p) (m:=(e+1,X)) (e':=182) (kk:=1) rfl (by rw[z8j];omega)) rfl (bk1 hX) ?_)|(apply z0t;first|refine z02 (zlo (by omega) (by decide) z1h (q64 j)) rfl rfl ?_| refine z02 (zqb (by omega) (by decide)) rfl rfl ?_| refine z02 (zgs (by omega)) rfl rfl ?_| refine z02 z8s rfl rfl ?_)|(apply z9u;refine z02 (zjw rfl rfl (zyf j)) rfl rfl ?_))|(apply z06;first|refine z0m ?_|apply z09)|(apply z07;first|apply z08|apply z00)
 all_goals refine z0e func162 _ z0p ⟨?_,rfl⟩
 all_goals rw[zx2]
theorem y2w(n:Nat)(p:Nat→Bool)(j:Nat)(hj:j≤n)(hn:n≤1000000)(m:Nm):z1v prog 179 [.ref m,I .i64 (j:Nat)] [(m,zdc n p)] [(m,zdc n (zil p j))] (.tup []):=by
 obtain⟨e,X⟩:=m
 have hx:(wl n p)[((j / 64:Nat):Int).toNat]? =some (wN p (j / 64)):=by rw[zA9,zcq _ _ (by omega)]
 have hs:(wl n p).set ((j / 64:Nat):Int).toNat (wN (zil p j) (j / 64))=wl n (zil p j):=by rw[zA9,y3x n p hj]
 refine z2a fun H hH=>?_
 have hX:H e X=some (zdc n p):=hH ((e,X),zdc n p) (by simp)
 refine z0g func179 (by kernel_rfl) rfl (by simp) ?_
 dsimp only[f179]
 have hw:=y1n p j
 have hs':(wds n p).set ((j / 64:Nat):Int).toNat (z1b (u6 (wN p (j / 64))) 0 [Dw6 (orV .u64 (wN p (j / 64):Nat) (zva .u64 1 ((j % 64:Nat):Int)))])=wds n (zil p j):=by
  rw[hw];show((wl n p).map u6).set _ _=(wl n (zil p j)).map u6;rw[←hs,List.map_set];rfl
 have hx':(wds n p)[((j / 64:Nat):Int).toNat]? =some (u6 (wN p (j / 64))):=by rw[zAd,hx];rfl
 repeat' first|(apply z05;first|refine z0n ?_| (apply z0a;refine z02 (z96 (m:=(e+1,X)) (e':=182) (kk:=1) hx' rfl rfl rfl) rfl (bk1 hX) ?_)|(apply z0k;refine z02 (z4r (ys:=wds n p) (m:=(e+1,X)) (e':=182) (kk:=1) rfl (by rw[z8j];omega)) rfl (bk1 hX) ?_)|(apply z0t;first|refine z02 (zlo (by omega) (by decide) z1h (q64 j)) rfl rfl ?_| refine z02 (zqb (by omega) (by decide)) rfl rfl ?_| refine z02 (zvd (by omega)) rfl rfl ?_| refine z02 zb2 rfl rfl ?_)|(apply z0f;refine z9c (m:=(e+1,X)) (e:=182) (kk:=1) rfl hX rfl rfl hx' rfl rfl hs' rfl ?_)|(apply z9u;refine z02 (zjw rfl rfl (zyf j)) rfl rfl ?_))|(apply z06;first|refine z0m ?_|apply z09)|(apply z07;apply z00)
 all_goals exact zcc func179 _ (z4j rfl) ⟨rfl,rfl⟩
theorem zwo(n:Nat)(p q:Nat→Bool)(hn:n≤1000000)(m:Nm):z1v prog 183 [.ref m,.d (.slice (wds n q))] [(m,zdc n p)] [(m,zdc n fun j=>p j||q j)] (.tup []):=by
 obtain⟨e,X⟩:=m
 refine z2a fun H hH=>?_
 have hX:H e X=some (zdc n p):=hH ((e,X),zdc n p) (by simp)
 refine z0g func183 (by kernel_rfl) rfl (by simp) ?_
 dsimp only[f183]
 repeat' first|(apply z05;first|refine z0n ?_| (apply z0s;refine z02 (z6g (m:=(e+1,X)) (e':=182) (kk:=1) (ys:=wds n p) rfl) rfl (bk1 hX) ?_))|(apply z06;first|refine z0m ?_|apply z09)|(apply z07;first|apply z08|apply z00|apply z01)
 rw[z8j]
 refine z0r ?_
 refine y55 (up':=upd H (e,X) (.row 182 1 ((wj n p q 0).map u6))) (by rw[zqt];exact z8o hX) ?_
 refine z0d (z1o (fun k:Nat=>⟨21,[(0,.ref (e+1,X)),(1,.d (.slice (wds n q))),(6,I .i64 ((n / 64+1:Nat):Int)),(7,I .i64 (k:Nat))],[],upd H (e,X) (.row 182 1 ((wj n p q k).map u6))⟩) (fun k=>k≤n / 64+1) (fun k=>n / 64+1-k) ?_ 0 (zAf _)) rfl rfl
 intro k hk ih
 try simp only at hk ih⊢
 by_cases hlt:k<n / 64+1
 ·have ih':=ih (k+1) (by omega) (by omega)
  have hx:((wj n p q k).map u6)[((k:Nat):Int).toNat]? =some (u6 (wN p k)):=by rw[zAd,zA9,zfr _ _ _ _ hlt,zAy (Nat.lt_irrefl _)];rfl
  have hy:((wl n q).map u6)[((k:Nat):Int).toNat]? =some (u6 (wN q k)):=by rw[zAd,zA9,zcq _ _ hlt];rfl
  have hw:=zz2 p q k
  have hs:((wj n p q k).map u6).set ((k:Nat):Int).toNat (z1b (u6 (wN p k)) 0 [Dw6 (orV .u64 (wN p k:Nat) (wN q k:Nat))])=(wj n p q (k+1)).map u6:=by rw[hw,←zqd n p q hlt,List.map_set];rfl
  have hX2:=z4s H (e,X) (.row 182 1 ((wj n p q k).map u6))
  repeat' (first | (apply z05; (first | refine z0n ?_| (apply z0f; (refine z9c (m := (e + 1, X)) (e := 182) (kk := 1) rfl hX2 rfl rfl hx rfl rfl hs rfl ?_)))) | (apply z06; (first | refine z0m ?_ | apply z09)) | (apply z07; (first | apply z08 | apply z00 | apply z04 | apply z01 | apply z2o | apply z03 | refine z0h (fun _ => ?_) (fun _ => ?_)| refine z0o ?_)) | (apply z2m; (first | refine z2w ?_| (apply z0v; (first | refine z0x (z96 (m := (e + 1, X)) (e' := 182) (kk := 1) hx rfl rfl rfl) rfl (bk1 hX2) ?_| refine z0x z2f rfl rfl ?_)) | (apply z1i; (first | refine z0x (z4r (ys := (wj n p q k).map u6) (m := (e + 1, X)) (e' := 182) (kk := 1) rfl (by rw [zA4, ze4]; omega)) rfl (bk1 hX2) ?_| refine z0x (z1a rfl hy) rfl rfl ?_)) | (apply z3p; (refine z0x zb2 rfl rfl ?_)) | (apply z2r; ((refine zbb mix (by kernel_rfl) ?_) /- zbt -/)))))
  all_goals try omega
  simp only[z3l]
  all_goals exact zD49
 ·exact zD37
attribute [local irreducible] zm1 zse
abbrev zck(n:Nat)(a:Rl):Hp:=fam 193 182 (rlX n a)
abbrev zat(n:Nat)(a:Rl):PV:=.d (y1j (rlX n a))
theorem y2e(n:Nat):rlX n ffR=List.replicate (n+1) (wds n fun _=>false):=by
 apply List.ext_getElem?
 intro s
 by_cases h:s<n+1
 ·rw[z7r _ _ (by omega),List.getElem?_replicate,zAz h]
 ·rw[zAv (by rw[z2k];omega),zAv (by simp;omega)]
theorem y4r(n:Nat):wds n (fun _=>false)=List.replicate (n / 64+1) [Dw6 0]:=by
 have:wl n (fun _=>false)=List.replicate (n / 64+1) 0:=(zmd (by simp) fun s hs=>by rw[List.getElem?_replicate,zAz hs,y5l]).symm
 show(wl n fun _=>false).map u6=_
 rw[this,List.map_replicate];rfl
theorem zb6(n:Nat)(hn:n≤1000000):zm1 prog 177 [I .i64 (n:Nat)] (zck n ffR) (.ref (0,1000)):=by
 refine zq7 fun H hH=>?_
 refine z4y func177 (by kernel_rfl) rfl (by simp) ?_
 dsimp only[f177]
 have hM:List.replicate (((n:Nat):Int)+1).toNat [D.lit z1t]=(List.replicate (n+1) (D.lit z1t)).map fun x=>[x]:=by rw[show(((n:Nat):Int)+1).toNat=n+1 by omega,List.map_replicate]
 repeat' first|(apply z05;first|refine z0n ?_| (apply z0t;refine z02 (z0z z1h) rfl rfl ?_)|(apply z0s;refine z02 (z6g rfl) rfl rfl ?_)|refine y09 (a:=((n:Nat):Int)+1) (xs:=(List.replicate (n+1) (D.lit z1t)).map fun x=>[x]) rfl rfl (by omega) (by omega) rfl rfl rfl (by decide) (by exact hM) ?_)|(apply z06;first|refine z0m ?_|apply z09)|(apply z07;first|apply z08|apply z00|apply z01)
 rw[zA4,zAr]
 refine y1i 7 (xs:=List.replicate (n+1) (D.lit z1t)) rfl ?_
 rw[List.map_replicate]
 refine z4n 7 1000 rfl (by simp[Blk.says,zg6]) ?_
 refine z0r ?_
 refine z0d (z1o (fun k:Nat=>⟨22,[(0,I .i64 (n:Nat)),(3,.ref (0,1000)),(9,I .i64 ((n+1:Nat):Int)),(10,I .i64 (k:Nat))],zsd 193 182 (List.replicate k (wds n fun _=>false)) (n+1-k),H⟩) (fun k=>k≤n+1) (fun k=>n+1-k) ?_ 0 (zAf _)) rfl rfl
 intro k hk ih
 by_cases hlt:k<n+1
 ·have ih':=ih (k+1) (by omega) (by omega)
  have hfr:(z1k 18 (zsd 193 182 (List.replicate k (wds n fun _=>false)) (n+1-k))&&z1q 18 [])=true:=by rw[zdn (by decide)];rfl
  have hM2:List.replicate (((n / 64:Nat):Int)+1).toNat [Dw6 0]=wds n fun _=>false:=by rw[show(((n / 64:Nat):Int)+1).toNat=n / 64+1 by omega,y4r]
  repeat' first|(apply z05;first|refine z0n ?_| (apply z0k;refine z02 (z5i rfl (by omega) (by rw[zAa,z2v,zAr,zAr];omega) rfl) rfl rfl ?_)|(apply z0t;first|refine z02 (zlo (by omega) (by decide) z1h (q64 n)) rfl rfl ?_| refine z02 (z0z z1h) rfl rfl ?_)|(apply z0f;refine zsb rfl rfl rfl rfl rfl (by rw[zAa,z2v,zAr,zAr];omega) rfl ?_)|(apply zpm;refine zoy (a:=((n / 64:Nat):Int)+1) (xs:=wds n fun _=>false) rfl rfl (by omega) (by omega) rfl rfl (by rw[zdn (by decide)];rfl) (by decide) (by exact hM2) ?_))|(apply z06;first|refine z0m ?_|apply z09)|(apply z07;first|apply z08|apply z00|apply z04|apply z01|apply z03|refine z0h (fun _=>?_) (fun _=>?_)| refine z0o ?_)
  all_goals try omega
  all_goals rw[show n+1-(k+1)=n-k by omega]at ih'
  all_goals rw[List.replicate_succ']at ih'
  all_goals refine zu2 18 (m:=n-k) (X:=List.replicate k (wds n fun _=>false)) (xs:=wds n fun _=>false) (by decide) rfl ?_ (fun s hs=>?_) ih' rfl rfl (by simp[z42,PV.says];omega)
  ·rw[Ab.look,zAz rfl]
   simp only[zAr,zA9,show n+1-k=n-k+1 by omega]
  ·rw[Ab.look,zAy (by omega),Ab.look,zAy (by omega),zsd,Ab.look,zAy (by omega)]
 ·obtain rfl:k=n+1:=by omega
  rw[Nat.sub_self,zi4,←y2e]
  repeat' first|(apply z05;refine z0n ?_)|(apply z06;first|refine z0m ?_|apply z09)|(apply z07;first|apply z08|apply z00|apply z04|apply z01|refine z0h (fun _=>?_) (fun _=>?_)| refine z0o ?_)
  all_goals try omega
  all_goals exact zn8 (X:=rlX n ffR) func177 rfl rfl (z7s _) (fun j xs h=>z6z h) hH rfl
def idk(k:Nat):Rl:=fun i j=>decide (i<k)&&i == j
theorem zvq:idk 0=ffR:=by funext i j;simp[idk]
theorem zzs(n:Nat):rlX n (idk (n+1))=rlX n idR:=by
 refine List.map_congr_left fun i hi=>?_
 rw[List.mem_range]at hi
 congr 2
 funext j
 simp[idk,idR,hi]
theorem zvf(k:Nat):zm5 (idk k) k (zil (idk k k) k)=idk (k+1):=by
 funext i j
 simp only[zm5]
 by_cases h:i=k
 ·subst h
  rw[zAz rfl,zil]
  simp[idk,Bool.beq_comm (a:=j)]
 ·rw[zAy h,idk,idk]
  exact zD76
theorem zbe{n:Nat}{a:Rl}{i:Nat}(h:i≤n):(zaa 0 (rlX n a).length)[i]? =some (.ref (0,5000+i)):=by rw[z6k,z2k,zAz (by omega),Nat.zero_add]
theorem zvy(n:Nat)(hn:n≤1000000):zm1 prog 180 [I .i64 (n:Nat)] (zck n idR) (.ref (0,1000)):=by
 refine zq7 fun H hH=>?_
 refine z4y func180 (by kernel_rfl) rfl (by simp) ?_
 dsimp only[f180]
 have hnw:=zb6 n hn
 repeat' first|(apply z05;first|refine z0n ?_| (apply z0s;refine z02 (zm7 (m:=(0,1000)) (e':=193) (cs:=zaa 0 (rlX n ffR).length) rfl) rfl rfl ?_)|(apply z0j;refine zpg (first:=[]) (cap:=[]) hnw rfl rfl (fun s q _=>⟨rfl,rfl⟩) (by decide) ?_))|(apply z06;first|refine z0m ?_|apply z09)|(apply z07;first|apply z08|apply z00|apply z01)
 rw[z2v,z2k]
 refine z0r ?_
 rw[←zvq]
 refine zjo (z1o (fun k:Nat=>⟨20,[(3,.ref (0,1000)),(8,I .i64 ((n+1:Nat):Int)),(9,I .i64 (k:Nat))],zck n (idk k)++[],H⟩) (fun k=>k≤n+1) (fun k=>n+1-k) ?_ 0 (zAf _)) rfl
 intro k hk ih
 by_cases hlt:k<n+1
 ·have ih':=ih (k+1) (by omega) (by omega)
  have hc:=zbe (n:=n) (a:=idk k) (show k≤n by omega)
  have hrow:=z6z (e:=193) (e0:=182) (z7r n (idk k) (show k≤n by omega))
  have hadd:=y2w n (idk k k) k (by omega) hn (0,5000+k)
  repeat' first|(apply z05;first|refine z0n ?_| (apply z0a;refine z02 (z6j hc rfl rfl) rfl rfl ?_)|(apply z0k;refine z02 (z5i rfl (by omega) (by rw[z2v,z2k];omega) rfl) rfl rfl ?_)|(apply z0t;refine z02 (z0z z1h) rfl rfl ?_)|(apply z0j;refine za1 hadd rfl (by rw[z4c,hrow];rfl) (by decide) ?_))|(apply z06;first|refine z0m ?_|apply z09)|(apply z07;first|apply z08|apply z00|apply z04|apply z01|apply z03|refine z0h (fun _=>?_) (fun _=>?_)| refine z0o ?_)
  all_goals try omega
  rw[show zck n (idk (k+1))=fam 193 182 ((rlX n (idk k)).set k (wds n (zil (idk k k) k))) by rw[zde,zvf]]at ih'
  refine zh4 (i:=k) (X:=rlX n (idk k)) (rest:=[]) (by rw[z2k];omega) ?_ (fun s b hs hb=>?_) ih' rfl
  ·rw[Ab.look,zAz rfl]
  ·rw[Ab.look,zAy (Ne.symm hs)];exact hb
 ·obtain rfl:k=n+1:=by omega
  rw[List.append_nil,show zck n (idk (n+1))=zck n idR from congrArg (fam 193 182) (zzs n)]
  repeat' first|(apply z05;refine z0n ?_)|(apply z06;first|refine z0m ?_|apply z09)|(apply z07;first|apply z08|apply z00|apply z04|apply z01|refine z0h (fun _=>?_) (fun _=>?_)| refine z0o ?_)
  all_goals try omega
  all_goals exact zn8 (X:=rlX n idR) func180 rfl rfl (z7s _) (fun j xs h=>z6z h) hH rfl
def orK(a b:Rl)(k:Nat):Rl:=fun i j=>a i j||(decide (i<k)&&b i j)
theorem zuu(a b:Rl):orK a b 0=a:=by funext i j;simp[orK]
theorem y0r(n:Nat)(a b:Rl):rlX n (orK a b (n+1))=rlX n (orR a b):=by
 refine List.map_congr_left fun i hi=>?_
 rw[List.mem_range]at hi
 congr 2
 funext j
 simp[orK,orR,hi]
theorem zvj(a b:Rl)(k:Nat):zm5 (orK a b k) k (fun j=>orK a b k k j||b k j)=orK a b (k+1):=by
 funext i j
 simp only[zm5]
 by_cases h:i=k
 ·subst h;simp[orK]
 ·rw[zAy h,orK,orK]
  exact zD76
theorem zvh{H:Hf}{n:Nat}{a:Rl}(h:H 0 1000=some (.rowp 193 (zaa 0 (n+1)))):zcx H (zex 182 0 (rlX n a))=zcx H (zck n a):=by
 funext d s
 cases d with
 | succ d=>rfl
 | zero =>
  simp only[zcx,fam,Ab.look]
  split
  ·rename_i h1;subst h1
   rw[z4m,zAy (by omega),z2k];exact h
  ·rfl
theorem zh9{n:Nat}{a:Rl}{i:Nat}(h:i≤n):((rlX n a).map fun xs=>[D.slice xs])[((i:Nat):Int).toNat]? =some [D.slice (wds n (a i))]:=by rw[zAd,zA9,z7r n a h];rfl
theorem y4b(n:Nat)(hn:n≤1000000)(a b:Rl):zse prog 182 [.ref (0,1000),zat n b] (zck n a) (zck n (orR a b)) (.tup []):=by
 refine zz8 fun H hH=>?_
 refine z0g func182 (by kernel_rfl) rfl (by simp) ?_
 dsimp only[f182]
 have h1000:H 0 1000=some (.rowp 193 (zaa 0 (rlX n a).length)):=hH _ _ (z7s _)
 repeat' first|(apply z05;first|refine z0n ?_| (apply z0s;refine z02 (zm7 (m:=(1,1000)) (e':=193) (cs:=zaa 0 (rlX n a).length) rfl) rfl (bk1 h1000) ?_))|(apply z06;first|refine z0m ?_|apply z09)|(apply z07;first|apply z08|apply z00|apply z01)
 rw[z2v,z2k]at *
 refine z0r ?_
 refine y55 (up':=zcx H (zex 182 0 (rlX n (orK a b 0)))) (by rw[zuu];exact zj1 (e:=193) hH) ?_
 refine zjo (z1o (fun k:Nat=>⟨20,[(0,.ref (1,1000)),(1,zat n b),(6,I .i64 ((n+1:Nat):Int)),(7,I .i64 (k:Nat))],[],zcx H (zex 182 0 (rlX n (orK a b k)))⟩) (fun k=>k≤n+1) (fun k=>n+1-k) ?_ 0 (zAf _)) rfl
 intro k hk ih
 by_cases hlt:k<n+1
 ·have ih':=ih (k+1) (by omega) (by omega)
  have hU:(zcx H (zex 182 0 (rlX n (orK a b k)))) 0 1000=some (.rowp 193 (zaa 0 (n+1))):=by simp[zcx,z4m,h1000]
  have hR:(zcx H (zex 182 0 (rlX n (orK a b k)))) 0 (5000+k)=some (zdc n (orK a b k k)):=by simp[zcx,z4m,z7r n _ (show k≤n by omega)]
  have hc:(zaa 0 (n+1))[k]? =some (.ref (0,5000+k)):=by rw[z6k,zAz hlt,Nat.zero_add]
  have hj:=zwo n (orK a b k k) (b k) hn (1,5000+k)
  have hb:=zh9 (n:=n) (a:=b) (show k≤n by omega)
  repeat' (first | (apply z05; (first | refine z0n ?_| (apply z0t; (refine z02 (z0z z1h) rfl rfl ?_)) | (apply z0j; (refine zs0 hj rfl hR (by decide) ?_)))) | (apply z06; (first | refine z0m ?_ | apply z09)) | (apply z07; (first | apply z08 | apply z00 | apply z04 | apply z01 | apply z2o | apply z03 | refine z0h (fun _ => ?_) (fun _ => ?_)| refine z0o ?_)) | (apply z2m; (first | refine z2w ?_| (apply z0v; (first | refine z0x (zrv (cs := zaa 0 (n + 1)) (md := 0) (ms := 1000) (e' := 193) hc rfl rfl rfl) rfl (bk1 hU) ?_| refine z0x z2f rfl rfl ?_)) | (apply z1i; (first | refine z0x (zo3 (cs := zaa 0 (n + 1)) (md := 0) (ms := 1000) (e' := 193) rfl (by omega) (by rw [z2v]; omega) rfl) rfl (bk1 hU) ?_| refine z0x (z1a rfl hb) rfl rfl ?_)) | (apply z1s; ((refine zbb mix (by kernel_rfl) ?_) /- zcj -/)))))
  all_goals try omega
  rw[zvp (by rw[z2k];omega),zde,zvj]
  exact zjo ih' rfl
 ·obtain rfl:k=n+1:=by omega
  rw[y0r]
  repeat' first|(apply z05;refine z0n ?_)|(apply z06;first|refine z0m ?_|apply z09)|(apply z07;first|apply z08|apply z00|apply z04|apply z01|apply z2o|refine z0h (fun _=>?_) (fun _=>?_)| refine z0o ?_)|(apply z2m;refine z2w ?_)
  all_goals try omega
  all_goals exact zcc func182 _ (z4j rfl) ⟨rfl,zvh h1000⟩
def thS(n:Nat)(a b:Rl)(i k:Nat):Rl:=fun i'=>zpy a b i' (if i'<i then n+1 else if i'=i then k else 0)
theorem zuw(n:Nat)(a b:Rl):thS n a b 0 0=ffR:=by
 funext i j
 simp[thS,zpy,ffR]
theorem zt5(n:Nat)(a b:Rl)(i:Nat):thS n a b i (n+1)=thS n a b (i+1) 0:=by
 funext i' j
 simp only[thS]
 by_cases h:i'<i
 ·rw[zAz h,zAz (by omega)]
 ·rw[zAy h]
  by_cases h2:i'=i
  ·rw[zAz h2,zAz (by omega)]
  ·rw[zAy h2,zAy (by omega)]
   split <;> rfl
theorem zxi(n:Nat)(a b:Rl):rlX n (thS n a b (n+1) 0)=rlX n (zol n a b):=by
 refine List.map_congr_left fun i hi=>?_
 rw[List.mem_range]at hi
 simp only[thS,zol]
 rw[zAz hi]
theorem zl9(n:Nat)(a b:Rl)(i k:Nat):thS n a b i k i=zpy a b i k:=by simp[thS]
theorem zij(a b:Rl)(i k:Nat):zpy a b i (k+1)=fun j=>zpy a b i k j||(a i k&&b k j):=by
 funext j;simp[zpy,List.range_succ]
theorem zzk(n:Nat)(a b:Rl){i k:Nat}(h:a i k=true):zm5 (thS n a b i k) i (fun j=>zpy a b i k j||b k j)=thS n a b i (k+1):=by
 funext i' j
 simp only[zm5]
 by_cases h2:i'=i
 ·subst h2;rw[zAz rfl,zl9,zij,h];simp
 ·rw[zAy h2]
  simp only[thS]
  rw[zAy h2,zAy h2]
theorem y2v(n:Nat)(a b:Rl){i k:Nat}(h:a i k=false):thS n a b i k=thS n a b i (k+1):=by
 funext i' j
 by_cases h2:i'=i
 ·subst h2;rw[zl9,zl9,zij,h];simp
 ·simp only[thS]
  rw[zAy h2,zAy h2]
theorem zlw(n:Nat)(hn:n≤1000000)(a b:Rl):z0q prog 181 [zat n a,zat n b] (zat n (zol n a b)):=by
 refine z0y fun H=>?_
 refine z0g func181 (by kernel_rfl) rfl (by simp) ?_
 dsimp only[f181]
 have hnw:=zb6 n hn
 have hsub:((rlX n a).length:Int)-1=((n:Nat):Int):=by rw[z2k];omega
 repeat' first|(apply z05;first|refine z0n ?_| (apply z0t;refine z02 (y3e z1h hsub) rfl rfl ?_)|(apply z0s;refine z02 (z0w rfl) rfl rfl ?_)|(apply z0j;refine zpg (first:=[]) (cap:=[]) hnw rfl rfl (fun s q _=>⟨rfl,rfl⟩) (by decide) ?_))|(apply z06;first|refine z0m ?_|apply z09)|(apply z07;first|apply z08|apply z00|apply z01)
 rw[z2k,←zuw n a b]
 refine z0r ?_
 refine zjo (z1o (fun i:Nat=>⟨40,[(0,zat n a),(1,zat n b),(5,.ref (0,1000)),(13,I .i64 ((n+1:Nat):Int)),(14,I .i64 (i:Nat))],zck n (thS n a b i 0)++[],H⟩) (fun i=>i≤n+1) (fun i=>n+1-i) ?_ 0 (zAf _)) rfl
 intro i hi ih
 by_cases hlt:i<n+1
 ·have ih':=ih (i+1) (by omega) (by omega)
  have ha:=zh9 (n:=n) (a:=a) (show i≤n by omega)
  repeat' first|(apply z05;first|refine z0n ?_| (apply z0s;refine z02 (z0w rfl) rfl rfl ?_))|(apply z06;first|refine z0m ?_|apply z09)|(apply z07;first|apply z08|apply z00|apply z04|apply z01|refine z0h (fun _=>?_) (fun _=>?_)| refine z0o ?_)
  all_goals try omega
  rw[z2k]
  refine z0r ?_
  refine zjo (z1o (fun k:Nat=>⟨40,[(0,zat n a),(1,zat n b),(5,.ref (0,1000)),(6,I .i64 (i:Nat)),(13,I .i64 ((n+1:Nat):Int)),(14,I .i64 (i:Nat)),(18,I .i64 ((n+1:Nat):Int)),(19,I .i64 (k:Nat))],zck n (thS n a b i k)++[],H⟩) (fun k=>k≤n+1) (fun k=>n+1-k) ?_ 0 (zAf _)) rfl
  intro k hk ihk
  by_cases hlk:k<n+1
  ·have ihk':=ihk (k+1) (by omega) (by omega)
   have hb:=zh9 (n:=n) (a:=b) (show k≤n by omega)
   have hh:=y3b n (a i) k (by omega) hn
   have hc:=zbe (n:=n) (a:=thS n a b i k) (show i≤n by omega)
   have hrow:=z6z (e:=193) (e0:=182) (z7r n (thS n a b i k) (show i≤n by omega))
   rw[zl9]at hrow
   have hj:=zwo n (zpy a b i k) (b k) hn (0,5000+i)
   cases hab:a i k with
   | true =>
    rw[hab]at hh
    repeat' (first | (apply z05; (first | refine z0n ?_| (apply z0a; (refine z02 z2f rfl rfl ?_)) | (apply z0k; (refine z02 (z1a rfl ha) rfl rfl ?_)) | (apply z0t; (refine z02 (z0z z1h) rfl rfl ?_)) | (apply z0j; (first | refine za1 hj rfl (by rw [z4c, hrow]; rfl) (by decide) ?_ | refine z29 hh ?_)))) | (apply z06; (first | refine z0m ?_ | apply z09)) | (apply z07; (first | apply z08 | apply z00 | refine z1j ?_| apply z04 | apply z01 | apply z2o | apply z03 | refine z0h (fun _ => ?_) (fun _ => ?_)| refine z0o ?_)) | (apply z2m; (first | refine z2w ?_| (apply z0v; (first | refine z0x (z6j hc rfl rfl) rfl rfl ?_| refine z0x z2f rfl rfl ?_)) | (apply z1i; (first | refine z0x (z1a rfl hb) rfl rfl ?_| refine z0x (z5i rfl (by omega) (by rw [z2v, z2k]; omega) rfl) rfl rfl ?_)) | (apply z1s; ((refine zbb mix (by kernel_rfl) ?_) /- zcj -/)))))
    all_goals try omega
    rw[show zck n (thS n a b i (k+1))=fam 193 182 ((rlX n (thS n a b i k)).set i (wds n fun j=>zpy a b i k j||b k j)) by rw[zde,zzk n a b hab]]at ihk'
    refine zh4 (i:=i) (X:=rlX n (thS n a b i k)) (rest:=[]) (by rw[z2k];omega) ?_ (fun s b hs hb=>?_) ihk' rfl
    ·rw[Ab.look,zAz rfl]
    ·rw[Ab.look,zAy (Ne.symm hs)];exact hb
   | false =>
    rw[hab]at hh
    repeat' first|(apply z05;first|refine z0n ?_| (apply z0a;refine z02 z2f rfl rfl ?_)|(apply z0k;refine z02 (z1a rfl ha) rfl rfl ?_)|(apply z0t;refine z02 (z0z z1h) rfl rfl ?_)|(apply z0j;refine z29 hh ?_))|(apply z06;first|refine z0m ?_|apply z09)|(apply z07;first|apply z08|apply z00|refine z15 ?_| apply z04|apply z01|apply z03|refine z0h (fun _=>?_) (fun _=>?_)| refine z0o ?_)
    all_goals try omega
    rw[←y2v n a b hab]at ihk'
    exact zjo ihk' rfl
  ·obtain rfl:k=n+1:=by omega
   rw[←zt5]at ih'
   repeat' first|(apply z05;first|refine z0n ?_| (apply z0t;refine z02 (z0z z1h) rfl rfl ?_))|(apply z06;first|refine z0m ?_|apply z09)|(apply z07;first|apply z08|apply z00|apply z04|apply z01|apply z03|refine z0h (fun _=>?_) (fun _=>?_)| refine z0o ?_)
   all_goals try omega
   exact zjo ih' rfl
 ·obtain rfl:i=n+1:=by omega
  rw[List.append_nil,show zck n (thS n a b (n+1) 0)=zck n (zol n a b)from congrArg (fam 193 182) (zxi n a b)]
  repeat' first|(apply z05;first|refine z0n ?_| (apply z0s;refine z02 (z0w rfl) rfl rfl ?_))|(apply z06;first|refine z0m ?_|apply z09)|(apply z07;first|apply z08|apply z00|apply z04|apply z01|refine z0h (fun _=>?_) (fun _=>?_)| refine z0o ?_)
  all_goals try omega
  all_goals refine zlz (X:=rlX n (zol n a b)) (tm':=[(4,zat n (zol n a b))]) (hp':=[]) (z7s _) (fun j xs h=>z6z h) (fun t p h=>?_) (fun s b h=>by simp[Ab.look]at h) ?_
  ·simp only[Ab.look]at h
   split at h
   ·rename_i e;subst e;simp at h;subst h;exact .inr ⟨rfl,rfl⟩
   ·cases h
  ·exact z0e func181 _ z0p ⟨rfl,rfl⟩
theorem zbo(r:Int)(h0:-1000≤r)(h1:r≤1114111):z0q prog 193 [I .i32 r] (I .i32 (z65 r)):=by
 refine z0y fun H=>?_
 refine z0g func193 (by kernel_rfl) rfl (by simp) ?_
 dsimp only[f193]
 rw[z65]
 by_cases hc:zps r
 ·rw[zAz hc]
  rw[zps]at hc
  all_goals exact zD11
 ·rw[zAy hc]
  rw[zps]at hc
  by_cases hd:1024≤r∧r≤1039
  ·rw[zAz hd]
   all_goals exact zD11
  ·rw[zAy hd]
   all_goals exact zD11
def rv3(f:Int)(r:Int × Int):Bool:=([f,f-32,f-80]:List Int).any fun x=>decide (z65 x=f)&&decide (r.1≤x)&&decide (x≤r.2)
def rok(fold:Bool)(c:Int)(rs:List (Int × Int)):Bool:=rs.any fun r=>(decide (r.1≤c)&&decide (c≤r.2))||(fold&&rv3 (z65 c) r)
theorem zwz{P:Program}{f:FuncId}{R:z4b}{k:List Go.Item}{n:Nat}{tm:List (Nat × PV)}{hp:Hp}{up:Hf}(t:Nat){p q:PV}(e:p=q)(ht:Ab.look tm t=some p:=by rfl)(h:Run P f R k ⟨n,(t,q)::tm,hp,up⟩):Run P f R k ⟨n,tm,hp,up⟩:=by
 subst e
 refine zcn (tm':=(t,p)::tm) (fun u r hu=>?_) (fun _ _ h=>h) h
 simp only[Ab.look]at hu
 split at hu
 ·rename_i e;subst e;rw[ht,hu]
 ·exact hu
theorem zyj{c:Int}(h0:0≤c)(h1:c≤1114111):0≤z65 c∧z65 c≤1114111:=by
 rw[z65];simp only[zps];repeat' split
 all_goals omega
theorem zjs(l:List (Int × Int))(hl:l.length≤9223372036854775807)(c:Int)(h0:0≤c)(h1:c≤1114111)(fold:Bool):z0q prog 178 [.d (rgs l),I .i32 c,B fold] (B (rok fold c l)):=by
 refine z0y fun H=>?_
 refine z0g func178 (by kernel_rfl) rfl (by simp) ?_
 dsimp only[f178]
 have hf:=zbo c (by omega) h1
 obtain⟨f0,f1⟩:=zyj h0 h1
 obtain⟨f,hfe⟩:∃f,z65 c=f:=⟨_,rfl⟩
 rw[rok]
 rw[hfe]at hf f0 f1⊢
 repeat' first|(apply z05;first|refine z0n ?_| (apply z0s;refine z02 (z0w rfl) rfl rfl ?_)|(apply z0j;refine z29 hf ?_))|(apply z06;first|refine z0m ?_|apply z09)|(apply z07;first|apply z08|apply z00|apply z01)
 refine z0r ?_
 obtain⟨P,hP⟩:∃P,(fun r:Int × Int=>(decide (r.1≤c)&&decide (c≤r.2))||(fold&&rv3 f r))=P:=⟨_,rfl⟩
 rw[hP]
 refine z0d (z1o (fun i:Nat=>⟨61,[(1,I .i32 c),(2,B fold),(7,I .i32 f),(14,.d (rgs l)),(15,I .i64 l.length),(16,I .i64 (i:Nat))],[],H⟩) (fun i=>i≤l.length∧(l.drop i).any P=l.any P) (fun i=>l.length-i) ?_ 0 ⟨zAf _,rfl⟩) rfl rfl
 rintro i ⟨hi,hI⟩ ih
 by_cases hlt:i<l.length
 ·obtain⟨r,hx⟩:∃r,l[i]? =some r:=⟨_,zA0 hlt⟩
  rw[drop_cons hx,List.any_cons]at hI
  have hPr:P r=((decide (r.1≤c)&&decide (c≤r.2))||(fold&&rv3 f r)):=by rw[←hP]
  rw[hPr]at hI
  by_cases hin:r.1≤c∧c≤r.2
  ·rw[zAi hin.1,zAi hin.2]at hI
   simp only[Bool.and_self,Bool.true_or]at hI
   rw[←hI]
   repeat' first|(apply z05;first|refine z0n ?_| (apply z0a;first|refine z02 z16 rfl rfl ?_| refine z02 z1w rfl rfl ?_)|(apply z0c;refine z02 z0i rfl rfl ?_)|(apply z0k;refine z02 (z1a (ys:=l.map rgc) rfl (idx hx)) rfl rfl ?_)|(apply z0t;refine z02 (z0z z1h) rfl rfl ?_)|(apply z0f;refine z25 ?_)|(apply z0l;refine z0b z2e ?_))|(apply z06;first|refine z0m ?_|apply z09|refine z1g ?_| refine z1p (fun _=>?_) fun _=>?_)|(apply z07;first|apply z08|apply z00|refine z15 ?_| apply z04|apply z01|refine z0h (fun _=>?_) (fun _=>?_)| refine z2q rfl (fun _=>?_) (fun _=>?_)|refine z0o ?_)
   all_goals try omega
   all_goals exact z0e func178 _ z0p ⟨rfl,rfl⟩
  ·have h0:(decide (r.1≤c)&&decide (c≤r.2))=false:=by
    rw[Bool.and_eq_false_iff,zA5,zA5];omega
   rw[h0,Bool.false_or]at hI
   cases fold with
   | false =>
    rw[Bool.false_and,Bool.false_or]at hI
    have ih':=ih (i+1) ⟨by omega,hI⟩ (by omega)
    repeat' first|(apply z05;first|refine z0n ?_| (apply z0a;first|refine z02 z16 rfl rfl ?_| refine z02 z1w rfl rfl ?_)|(apply z0c;refine z02 z0i rfl rfl ?_)|(apply z0k;refine z02 (z1a (ys:=l.map rgc) rfl (idx hx)) rfl rfl ?_)|(apply z0t;refine z02 (z0z z1h) rfl rfl ?_)|(apply z0f;refine z25 ?_)|(apply z0l;refine z0b z2e ?_))|(apply z06;first|refine z0m ?_|apply z09|refine z1g ?_| refine z1p (fun _=>?_) fun _=>?_)|(apply z07;first|apply z08|apply z00|refine z1j ?_| refine z15 ?_| apply z04|apply z01|refine z0h (fun _=>?_) (fun _=>?_)| refine z0o ?_)
    all_goals exact zD23
   | true =>
    rw[Bool.true_and]at hI
    obtain⟨vs,hvs'⟩:∃vs,([f,f-32,f-80]:List Int)=vs:=⟨_,rfl⟩
    have hvs:=hvs'.symm
    obtain⟨Q,hQ⟩:∃Q,(fun x=>decide (z65 x=f)&&decide (r.1≤x)&&decide (x≤r.2))=Q:=⟨_,rfl⟩
    by_cases g1:r.1≤c
    ·exact zD2
    ·exact zD2
 ·obtain rfl:i=l.length:=by omega
  rw[zAs,List.any_nil]at hI
  rw[←hI]
  repeat' first|(apply z05;refine z0n ?_)|(apply z06;first|refine z0m ?_|apply z09)|(apply z07;first|apply z08|apply z00|apply z04|apply z01|refine z0h (fun _=>?_) (fun _=>?_)| refine z0o ?_)
  all_goals try omega
  all_goals exact z0e func178 _ z0p ⟨rfl,rfl⟩
theorem y06(n:Nat)(p q:Nat→Bool)(hn:n≤1000000)(X Y:Nat)(hXY:X≠Y):z1v prog 183 [.ref (0,X),.ref (0,Y)] [((0,X),zdc n p),((0,Y),zdc n q)] [((0,X),zdc n fun j=>p j||q j)] (.tup []):=by
 refine z2a fun H hH=>?_
 have hX:H 0 X=some (zdc n p):=hH ((0,X),zdc n p) (by simp)
 have hY:H 0 Y=some (zdc n q):=hH ((0,Y),zdc n q) (by simp)
 refine z0g func183 (by kernel_rfl) rfl (by simp) ?_
 dsimp only[f183]
 repeat' first|(apply z05;first|refine z0n ?_| (apply z0s;refine z02 (z6g (m:=(1,X)) (e':=182) (kk:=1) (ys:=wds n p) rfl) rfl (bk1 hX) ?_))|(apply z06;first|refine z0m ?_|apply z09)|(apply z07;first|apply z08|apply z00|apply z01)
 rw[z8j]
 refine z0r ?_
 refine y55 (up':=upd H (0,X) (.row 182 1 ((wj n p q 0).map u6))) (by rw[zqt];exact z8o hX) ?_
 refine z0d (z1o (fun k:Nat=>⟨21,[(0,.ref (1,X)),(1,.ref (1,Y)),(6,I .i64 ((n / 64+1:Nat):Int)),(7,I .i64 (k:Nat))],[],upd H (0,X) (.row 182 1 ((wj n p q k).map u6))⟩) (fun k=>k≤n / 64+1) (fun k=>n / 64+1-k) ?_ 0 (zAf _)) rfl rfl
 intro k hk ih
 by_cases hlt:k<n / 64+1
 ·have ih':=ih (k+1) (by omega) (by omega)
  have hx:((wj n p q k).map u6)[((k:Nat):Int).toNat]? =some (u6 (wN p k)):=by rw[zAd,zA9,zfr _ _ _ _ hlt,zAy (Nat.lt_irrefl _)];rfl
  have hy:((wl n q).map u6)[((k:Nat):Int).toNat]? =some (u6 (wN q k)):=by rw[zAd,zA9,zcq _ _ hlt];rfl
  have hw:=zz2 p q k
  have hs:((wj n p q k).map u6).set ((k:Nat):Int).toNat (z1b (u6 (wN p k)) 0 [Dw6 (orV .u64 (wN p k:Nat) (wN q k:Nat))])=(wj n p q (k+1)).map u6:=by rw[hw,←zqd n p q hlt,List.map_set];rfl
  have hX2:=z4s H (0,X) (.row 182 1 ((wj n p q k).map u6))
  have hY2:(upd H (0,X) (.row 182 1 ((wj n p q k).map u6))) 0 Y=some (zdc n q):=by rw[z92 H (0,X) (0,Y) _ (by simpa using Ne.symm hXY)];exact hY
  repeat' (first | (apply z05; (first | refine z0n ?_| (apply z0f; (refine z9c (m := (1, X)) (e := 182) (kk := 1) rfl hX2 rfl rfl hx rfl rfl hs rfl ?_)))) | (apply z06; (first | refine z0m ?_ | apply z09)) | (apply z07; (first | apply z08 | apply z00 | apply z04 | apply z01 | apply z2o | apply z03 | refine z0h (fun _ => ?_) (fun _ => ?_)| refine z0o ?_)) | (apply z2m; (first | refine z2w ?_| (apply z0v; (first | refine z0x (z96 (m := (1, X)) (e' := 182) (kk := 1) hx rfl rfl rfl) rfl (bk1 hX2) ?_| refine z0x (z96 (m := (1, Y)) (e' := 182) (kk := 1) hy rfl rfl rfl) rfl (bk1 hY2) ?_)) | (apply z1i; (first | refine z0x (z4r (ys := (wj n p q k).map u6) (m := (1, X)) (e' := 182) (kk := 1) rfl (by rw [zA4, ze4]; omega)) rfl (bk1 hX2) ?_| refine z0x (z4r (ys := wds n q) (m := (1, Y)) (e' := 182) (kk := 1) rfl (by rw [z8j]; omega)) rfl (bk1 hY2) ?_)) | (apply z3p; (refine z0x zb2 rfl rfl ?_)) | (apply z2r; ((refine zbb mix (by kernel_rfl) ?_) /- zbt -/)))))
  all_goals try omega
  simp only[z3l]
  all_goals exact zD49
 ·exact zD37
theorem zzu(n:Nat)(p:Nat→Bool)(hn:n≤1000000)(X:Nat):z1v prog 183 [.ref (0,X),.ref (0,X)] [((0,X),zdc n p)] [((0,X),zdc n fun j=>p j||p j)] (.tup []):=by
 refine z2a fun H hH=>?_
 have hX:H 0 X=some (zdc n p):=hH ((0,X),zdc n p) (by simp)
 refine z0g func183 (by kernel_rfl) rfl (by simp) ?_
 dsimp only[f183]
 repeat' first|(apply z05;first|refine z0n ?_| (apply z0s;refine z02 (z6g (m:=(1,X)) (e':=182) (kk:=1) (ys:=wds n p) rfl) rfl (bk1 hX) ?_))|(apply z06;first|refine z0m ?_|apply z09)|(apply z07;first|apply z08|apply z00|apply z01)
 rw[z8j]
 refine z0r ?_
 refine z0d (z1o (fun k:Nat=>⟨21,[(0,.ref (1,X)),(1,.ref (1,X)),(6,I .i64 ((n / 64+1:Nat):Int)),(7,I .i64 (k:Nat))],[],H⟩) (fun k=>k≤n / 64+1) (fun k=>n / 64+1-k) ?_ 0 (zAf _)) rfl rfl
 intro k hk ih
 by_cases hlt:k<n / 64+1
 ·have ih':=ih (k+1) (by omega) (by omega)
  have hx:(wds n p)[((k:Nat):Int).toNat]? =some (u6 (wN p k)):=by rw[zAd,zA9,zcq _ _ hlt];rfl
  have hw:orV .u64 (wN p k:Nat) (wN p k:Nat)=((wN p k:Nat):Int):=by
   rw[zz2]
   have:orP p p=p:=by funext j;simp[orP]
   rw[this]
  have hs:(wds n p).set ((k:Nat):Int).toNat (z1b (u6 (wN p k)) 0 [Dw6 (orV .u64 (wN p k:Nat) (wN p k:Nat))])=wds n p:=by
   rw[hw]
   apply List.ext_getElem?
   intro s
   by_cases h:((k:Nat):Int).toNat=s
   ·rw[←h,zAp (by rw[z8j];omega),hx];rfl
   ·rw[List.getElem?_set_ne h]
  repeat' (first | (apply z05; (first | refine z0n ?_| (apply z0f; (refine z9c (m := (1, X)) (e := 182) (kk := 1) rfl hX rfl rfl hx rfl rfl hs rfl ?_)))) | (apply z06; (first | refine z0m ?_ | apply z09)) | (apply z07; (first | apply z08 | apply z00 | apply z04 | apply z01 | apply z2o | apply z03 | refine z0h (fun _ => ?_) (fun _ => ?_)| refine z0o ?_)) | (apply z2m; (first | refine z2w ?_| (apply z0v; (refine z0x (z96 (m := (1, X)) (e' := 182) (kk := 1) hx rfl rfl rfl) rfl (bk1 hX) ?_)) | (apply z1i; (refine z0x (z4r (ys := wds n p) (m := (1, X)) (e' := 182) (kk := 1) rfl (by rw [z8j]; omega)) rfl (bk1 hX) ?_)) | (apply z3p; (refine z0x zb2 rfl rfl ?_)) | (apply z2r; ((refine zbb mix (by kernel_rfl) ?_) /- zbt -/)))))
  all_goals try omega
  have hU:upd H (0,X) (.row 182 1 (wds n p))=H:=z8o hX
  simp only[hU]
  all_goals exact zD49
 ·obtain rfl:k=n / 64+1:=by omega
  repeat' first|(apply z05;refine z0n ?_)|(apply z06;first|refine z0m ?_|apply z09)|(apply z07;first|apply z08|apply z00|apply z04|apply z01|apply z2o|refine z0h (fun _=>?_) (fun _=>?_)| refine z0o ?_)|(apply z2m;refine z2w ?_)
  all_goals try omega
  all_goals refine zcc func183 _ (z4j rfl) ⟨rfl,?_⟩
  have e:(fun j=>p j||p j)=p:=by funext j;simp
  rw[e]
  exact(z8o hX).symm
end Go.Proofs.YtonhfccmeammbaaGreatDoor
