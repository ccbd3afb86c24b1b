/- A part. -/
import Derived.Test.YtmcggompdmngmaaGreatDoorXD
import Derived.Test.YtmcggompdmngmaaGreatDoorXr
import Derived.Shelf.Small.Strs
import Derived.Shelf.Sort.Plain
import Derived.Shelf.Strings.Prefix
import Derived.Shelf.Slices.In.SortNone
import Derived.Shelf.SlSortCmp.NoneTotal
set_option linter.all false
open Go.Proofs.Tryz
namespace Go.Proofs.YtmcggompdmngmaaGreatDoor
open Go.Ab Go.Lx
abbrev stc(s:ByteArray):List D:=[.lit (.string s)]
abbrev nmc(n:Nat):List D:=[.lit (.int .i64 (n:Nat))]
theorem znf(f g:ByteArray→D)(x:ByteArray):∀(K:List ByteArray),K.Nodup→(∀w∈K,w≠x→f w=g w)→z9h (K.map fun w=>(w,f w)) x (g x)=(zii K x).map fun w=>(w,g w)
 | [],_,_=>rfl
 | b::K,hn,h=>by
  obtain⟨h1,h2⟩:=List.nodup_cons.1 hn
  rw[List.map_cons,z9h]
  by_cases e:b=x
  ·subst e
   rw[zAz rfl,zii,zAz (by simp),List.map_cons]
   congr 1
   refine List.map_congr_left fun w hw=>?_
   rw[h w (by simp[hw]) fun e=>h1 (e▸hw)]
  ·rw[zAy e,znf f g x K h2 fun w hw=>h w (by simp[hw])]
   have e2:zii (b::K) x=b::zii K x:=by
    rw[zii,zii]
    by_cases hx:x∈K
    ·rw[zAz hx,zAz (by simp[hx])]
    ·rw[zAy hx,zAy (by simp[hx,Ne.symm e])];rfl
   rw[e2,List.map_cons,h b (by simp) e]
theorem zph(f:ByteArray→D)(x:ByteArray):∀(K:List ByteArray),z5t (K.map fun w=>(w,f w)) x=if x∈K then some (f x)else none
 | []=>rfl
 | b::K=>by
  rw[List.map_cons,z5t]
  by_cases e:b=x
  ·subst e;rw[zAz rfl,zAz (by simp)]
  ·rw[zAy e,zph f x K]
   by_cases hx:x∈K
   ·rw[zAz hx,zAz (by simp[hx])]
   ·rw[zAy hx,zAy (by simp[hx,Ne.symm e])]
def zwi(v:List ByteArray)(w:ByteArray):D:=.lit (.int .i64 (z5v v w))
def zgk(v:List ByteArray):List (ByteArray × D):=(zm3 v).map fun w=>(w,zwi v w)
theorem zwy(v:List ByteArray)(x:ByteArray):z9h (zgk v) x (.lit (.int .i64 ((z5v v x:Nat)+1)))=zgk (v++[x]):=by
 have:=znf (zwi v) (zwi (v++[x])) x (zm3 v) (zaz v) fun w _ hw=>by
  rw[zwi,zwi,zcb,zAy (Ne.symm hw),Nat.add_zero]
 rw[zgk,zgk,zv6,←this,zwi,zcb,zAz rfl];rfl
theorem zpi(v:List ByteArray)(x:ByteArray):(z5t (zgk v) x).getD (.lit (.int .i64 0))=.lit (.int .i64 (z5v v x)):=by
 rw[zgk,zph]
 split
 ·rfl
 ·rename_i h
  rw[zcc]at h
  rw[zi9 h];rfl
theorem zgc(v:List ByteArray):((zgk v).map fun p=>(Value.string p.1,p.2)).length=(zm3 v).length:=by rw[zgk];simp
open Go.Ab Go.Rx Go.Lx
set_option maxHeartbeats 20000000
set_option maxRecDepth 100000
attribute [local irreducible] Run Ops Op1 z0y Val Tr z0a z0u NF Rel z27 z29 z5w
noncomputable def y3l:Code:=match f161.body with|some (.seq _ (.seq _ (.seq (.seq _ (.block _ (.rangeFunc _ _ a _))) _)))=>a|_=>.skip
noncomputable def zus:Code:=match f161.body with|some (.seq _ (.seq _ (.seq (.seq _ (.block _ (.rangeFunc _ _ _ b))) _)))=>b|_=>.skip
def y6v:List (Nat × PV):=[(3,.ptr (0,3) 0)]
noncomputable def y78(state:LoopState):Blk:=.lp 13 161 #[7] y3l zus y6v state none
abbrev y4j(q:List Un):Blk:=.row 197 3 (q.map unc)
noncomputable def ybg(s:ByteArray)(q:List Un):Hp:=[(999,y78 .ready),(3,.box [.ref (0,5000)]),(5000,y4j q),(901,.box [S s])]
noncomputable def liW(s:ByteArray)(H:Hf)(q:List Un):Hf:=push (ybg s q) H
theorem zy6(s:ByteArray)(H:Hf)(hp:Hp)(q:List Un)(u:Un)(hqt:z2m (1,5000) hp=true)(hok:(q.length:Int)≤1000000) :
 zf0 prog (1,999) [.d (.agg (unc u))] (push hp (liW s H q)) (fun r H'=>r=.v (B true)∧H'=push hp (liW s H (q++[u]))) (fun y=>y=(1,5000)):=by
 refine y74 (n':=13) (f':=161) (t0:=7) (asg:=y3l) (body:=zus) (st:=y6v) (pend:=none) (R2:=fun r H'=>r=.v (B true)∧H'=upd (upd (push hp (liW s H q)) (1,999) (y78 .busy)) (1,5000) (y4j (q++[u]))) rfl (by decide) (by simp) ?_ ?_ ?_ ?_
 ·rw[show z1w (1+1) y6v=[(3,.ptr (2,3) 0)] by simp[y6v,z1w,PV.lift]]
  dsimp only[y3l,zus,f161]
  repeat' first|refine z04 ?_|fail
  refine zb6 rfl rfl ?_
  change Run _ _ _ _ ⟨_,_,_,upd (push hp (liW s H q)) (1,999) (y78 .busy)⟩
  have hb3:upd (push hp (liW s H q)) (1,999) (y78 .busy) 1 3=some (.box [.ref (0,5000)]):=rfl
  have hb5:upd (push hp (liW s H q)) (1,999) (y78 .busy) 1 5000=some (y4j q):=rfl
  obtain⟨U,hU⟩:∃U,upd (push hp (liW s H q)) (1,999) (y78 .busy)=U:=⟨_,rfl⟩
  rw[hU]at hb3 hb5⊢
  refine z00 (tm':=[(4,.ptr (0,4) 0),(3,.ptr (2,3) 0)]) (hp':=[(4,.box ((unc u).map .d))]) ?_ rfl rfl
  refine z4d 700 1 3 hb3 rfl rfl ?_
  refine z1k 701 1 5000 (z08 hb5 (by simp)) rfl rfl ?_
  refine z3l 100701 rfl ?_
  refine z00 (tm':=[(4,.ptr (0,4) 0),(3,.ptr (0,700) 0),(100700,.al (0,700) (2,3))]) (hp':=[(4,.box ((unc u).map .d)),(700,.box [.ref (0,701)]),(701,y4j q)]) ?_ rfl rfl
  obtain⟨V,hV⟩:∃V,upd (upd U (1,3) .gone) (1,5000) .gone=V:=⟨_,rfl⟩
  have v3:V 1 3=some .gone:=by rw[←hV];exact z08 (z1g _ (1,3) _) (by simp)
  have v5:V 1 5000=some .gone:=by rw[←hV];exact z1g _ (1,5000) _
  rw[hV]
  have hqV:z73 V (1,5000):=by
   intro x y b hx hb
   rw[←hV,←hU]at hb
   simp only[upd]at hb
   split at hb
   ·simp at hb;subst hb;rfl
   rename_i n1
   split at hb
   ·simp at hb;subst hb;rfl
   rename_i n2
   split at hb
   ·simp at hb;subst hb;rename_i n3;obtain⟨rfl,rfl⟩:=n3;rfl
   ·match x,hx with
    | 0,_=>exact z38 hqt hb
    | 1,_ =>
     have hb':Ab.look (ybg s q) y=some b:=hb
     refine z6v 3 (m:=(0,5000)) ?_ hb' (by omega)
     rfl
  repeat' first|(apply z14;refine z2w (g:=unc) u rfl ?_)|refine z04 ?_|fail
  all_goals try omega
  refine z00 (tm':=[(100700,.al (0,700) (2,3))]) (hp':=[(700,.box [.ref (0,11)]),(11,y4j (q++[u]))]) ?_ rfl rfl
  refine zlk 11 1 5000 rfl v5 rfl rfl hqV ?_
  exact zD70
 ·rintro H' ⟨_,rfl⟩
  refine⟨y6v,none,z08 (z1g _ _ _) (by simp),rfl,?_⟩
  rw[z8b (by simp),z1m]
  funext d t
  match d with
  | 0=>rfl
  | d+2=>rfl
  | 1 =>
   by_cases h1:t=5000
   ·subst h1;rfl
   by_cases h2:t=999
   ·subst h2;rfl
   by_cases h3:t=3
   ·subst h3;rfl
   have k1:=Ne.symm h1
   have k2:=Ne.symm h2
   have k3:=Ne.symm h3
   simp[upd,push,liW,ybg,Ab.look,h1,h2,h3,k1,k2,k3]
 ·rintro H' ⟨h,_⟩;cases h
 ·rintro id H' ⟨h,_⟩;cases h
theorem y17:∀(l q:List Un),zij (fun(_:List Un) _=>true) (fun q u=>q++[u]) q l=q++l
 | [],q=>by simp[zij]
 | u::l,q=>by rw[zij,zAz rfl,y17 l];simp
theorem y7m(s:ByteArray)(hs:s.size≤1000000):z0a prog 161 [S s] (.d (.slice ((unF 0 (rst s 0)).map unc))):=by
 refine z0q fun H=>?_
 refine z05 func161 (by kernel_rfl) rfl (by simp) ?_
 dsimp only[f161]
 refine zcy 901 ?_
 have h37:∀(hp:Hp),Ab.look hp 901=some Blk.gone→z2m (0,901) hp=true→z9f prog 119 [S s] (push hp H) ⟨fun r H'=>r=.v (.fn (.func 149) [] [.ptr (0,901) 0])∧H'=push ((901,.box [S s])::hp) H,fun x=>x=(0,901)∨x=(0,902),none⟩:=by
  exact zD26
 repeat' first|(apply z0r;refine zia (h37 _ rfl rfl) rfl rfl rfl (by decide) ?_)|(apply z1s;refine z09 z4t ?_)|refine z04 ?_|fail
 all_goals try omega
 refine z2j 3 0 5000 197 3 rfl rfl rfl rfl ?_
 refine z00 (tm':=[(3,.ptr (0,3) 0),(6,.fn (.func 149) [] [.ptr (0,901) 0])]) (hp':=[(3,.box [.ref (0,5000)]),(5000,y4j []),(901,.box [S s])]) ?_ rfl rfl
 have hsp:=zco s hs (fun i (q:List Un)=>(q.length:Int)≤i) (fun _ _=>true) (fun q u=>q++[u]) (liW s H) (fun x=>rfl) (fun x u hu h1 _=>by
  have:=hu.n1
  rw[zAa,zAn];push_cast;omega) (fun hp x u hq h1 h2=>zy6 s H hp x u hq (by have:=h2.e;have:=h2.n1;omega)) [] (by simp)
 refine z6n 999 5000 y6v rfl rfl rfl rfl rfl hsp (fun m h=>h) ?_
 rintro r H2 ⟨_,rfl⟩
 rw[y17,List.nil_append]
 generalize unF 0 (rst s 0)=Q at *
 refine⟨.ready,none,y6v,_,H,rfl,by simp,?_⟩
 refine z00 (tm':=[(3,.ptr (0,3) 0)]) (hp':=[(3,.box [.ref (0,5000)]),(5000,y4j Q)]) ?_ rfl rfl
 refine z0o 5000 rfl ?_
 repeat' first|refine z04 ?_|fail
 all_goals try omega
 all_goals exact z03 func161 _ z1h ⟨rfl,rfl⟩
theorem y35(s:ByteArray):∀(f i:Nat),s.size-i≤f→∀u∈unF i (rst s i),y72 s u
 | 0,i,h,u,hu=>by rw[z3i (by omega)]at hu;simp[unF]at hu
 | f+1,i,h,u,hu=>by
  by_cases hi:i<s.size
  ·have hw:=z8r s i hi
   have hh:=zg7 s i
   rw[z5y hi,unF]at hu
   rcases zAc.1 hu with rfl|hu
   ·exact⟨by simp only;omega,by simp only;omega,by simp only;omega,by simp only;omega,by simp only;omega⟩
   ·exact y35 s f _ (by simp only;omega) u hu
  ·rw[z3i (by omega)]at hu;simp[unF]at hu
theorem znh(s:ByteArray):∀(f i:Nat),s.size-i≤f→(unF i (rst s i)).length≤s.size-i
 | 0,i,h=>by rw[z3i (by omega)];simp[unF]
 | f+1,i,h=>by
  by_cases hi:i<s.size
  ·have hw:=z8r s i hi
   rw[z5y hi,unF,zAk]
   have:=znh s f (i+(Utf8.decode s i).2) (by omega)
   simp only at this⊢
   omega
  ·rw[z3i (by omega)];simp[unF]
def pcR(s:ByteArray)(u:Un):List Int:=btI (s.extract u.2.1.toNat (u.2.1+u.2.2).toNat)
def rvQ(s:ByteArray)(l:List Un):List Int:=l.reverse.flatMap (pcR s)
def zs8(s:ByteArray):ByteArray:=strOfNums (rvQ s (unF 0 (rst s 0)))
theorem zn8(s:ByteArray)(u:Un)(l:List Un):rvQ s (u::l)=rvQ s l++pcR s u:=by rw[rvQ,List.reverse_cons,List.flatMap_append];simp[rvQ]
theorem y6f(s:ByteArray)(u:Un):(pcR s u).length≤s.size:=by
 rw[pcR,zdd,ByteArray.size_extract];omega
theorem zsy(s:ByteArray):∀l:List Un,(rvQ s l).length≤l.length*s.size
 | []=>by simp[rvQ]
 | u::l=>by
  have:=zsy s l
  have:=y6f s u
  rw[zn8,zAa,zAk,Nat.add_mul];omega
theorem zqf(s:ByteArray)(hs:s.size≤1000):z0a prog 123 [S s] (S (zs8 s)):=by
 refine z0q fun H=>?_
 have hli:=y7m s (by omega)
 have hok:=y35 s s.size 0 (by omega)
 have hln:=znh s s.size 0 (by omega)
 rw[zs8]
 generalize unF 0 (rst s 0)=Q at *
 refine z05 func123 (by kernel_rfl) rfl (by simp) ?_
 dsimp only[f123]
 repeat' first|(apply z06;refine z1o hli ?_)|refine z04 ?_|(apply z0r;refine ztl rfl rfl (by omega) (by omega) (by omega) (by decide) rfl rfl (by decide) rfl ?_)
 all_goals try omega
 refine z1d 10 5000 ?_
 refine z0f ?_
 refine z00 (z0s (fun z:Nat × List Int=>⟨40,[(0,S s),(3,.d (.slice (Q.map unc))),(4,.ref (0,5000)),(5,I .i64 ((z.1:Nat)-1))],[(5000,.row 5 1 (z.2.map by8))],H⟩) (fun z=>z.1≤Q.length∧z.2=rvQ s (Q.drop z.1)) (fun z=>z.1) ?_ (Q.length,[]) ⟨zAj _,by simp[rvQ]⟩) rfl rfl
 rintro⟨k,q⟩ ⟨i1,i2⟩ ih
 simp only at i1 i2 ih⊢
 have hq:=zsy s (Q.drop k)
 have hq2:(rvQ s (Q.drop k)).length≤1000*1000:=by
  refine Nat.le_trans hq (Nat.mul_le_mul ?_ hs)
  rw[List.length_drop];omega
 by_cases hk:0<k
 ·obtain⟨j,rfl⟩:∃j,k=j+1:=⟨k-1,by omega⟩
  obtain⟨u,hu⟩:∃u,Q[j]? =some u:=⟨_,zA0 (by omega)⟩
  obtain⟨z0,z1,z2,z3,z4⟩:=hok u (zA2 hu)
  have ih':=ih (j,q++btI (s.extract u.2.1.toNat (u.2.1+u.2.2).toNat)) ⟨by simp only;omega,by simp only;rw[drop_cons hu,zn8,pcR,i2]⟩ (by simp only;omega)
  simp only at ih'
  rw[←i2]at hq2
  have hps:(s.extract u.2.1.toNat (u.2.1+u.2.2).toNat).size≤1000:=by rw[ByteArray.size_extract];omega
  have hji:Q[(((j+1:Nat):Int)-1).toNat]? =some u:=by rw[show(((j+1:Nat):Int)-1).toNat=j by omega];exact hu
  have e1:(((j+1:Nat):Int)-1-1)=((j:Nat):Int)-1:=by omega
  rw[←e1]at ih'
  repeat' (first | (apply z02; (refine z0c (z11 (ys := Q.map unc) rfl (zam hji)) rfl rfl ?_)) | (apply z3p; (refine z0c (zpw rfl (by omega) (by omega) (by omega)) rfl rfl ?_)) | (apply z14; ((refine zgr rfl rfl rfl rfl rfl rfl (by kernel_rfl) rfl (by decide) (by omega) ?_) /- z4x -/)) | (apply z4i; ((refine zc1 mix (by kernel_rfl) ?_) /- z4y -/)) | refine z04 ?_ | refine fk (fun _ => ?_) (fun _ => ?_))
  all_goals try omega
  refine z1d 37 5000 ?_
  exact z00 ih' rfl rfl
 ·obtain rfl:k=0:=by omega
  clear ih
  rw[List.drop_zero]at i2
  rw[←i2]
  refine z0o 5000 rfl ?_
  repeat' first|refine z04 ?_|(apply z0r;refine z07 (zhh rfl rfl rfl) rfl rfl ?_)
  all_goals try omega
  all_goals exact z03 func123 _ z1h ⟨rfl,rfl⟩
end Go.Proofs.YtmcggompdmngmaaGreatDoor
namespace Go.Proofs.YtmcggompdmngmaaGreatDoor
open Go.Proofs
open Go.Shelf
open Go.RowKit in
def zkx:Go.Shelf.Ren:=⟨fun|106=>126|213=>163|265=>195|n=>n,fun|9=>9|3=>3|n=>n,fun|n=>n⟩
theorem y37:Go.Proofs.Lays.n106 prog zkx:={
 mixed:=by kernel_rfl
 f106:=func126.trans (congrArg some (by kernel_rfl))
 f213:=func163.trans (congrArg some (by kernel_rfl))
 f265:=func195.trans (congrArg some (by kernel_rfl))
 t3:=underlying3
 a3:=isAgg3
 z3:=sizeOf3
 v3:=zeroValue3
 t9:=underlying9
 a9:=isAgg9
 z9:=sizeOf9
 v9:=zeroValue9 }
open Go.RowKit in
theorem strings_Compare(a b:ByteArray)(w:World) :
 Calls prog 126 #[.string a,.string b] w fun e w'=>e=.returned (.int .i64 (Lib.compareBytes a.data.toList b.data.toList))∧w'=w:=Any.strings_Compare y37 a b w
def zll:Go.Shelf.Ren:=⟨fun|190=>83|125=>122|258=>121|128=>159|129=>160|302=>150|303=>151|304=>152|305=>153|306=>154|307=>155|308=>156|309=>157|310=>158|333=>181|329=>182|330=>183|334=>184|335=>185|336=>186|344=>202|n=>n,fun|31=>22|9=>9|3=>3|46=>169|0=>0|51=>234|53=>108|4=>4|183=>228|182=>227|131=>143|5=>5|218=>251|222=>155|228=>264|229=>67|n=>n,fun|n=>n⟩
theorem zsd:Go.Proofs.Lays.n190 prog zll:={
 mixed:=by kernel_rfl
 f125:=func122.trans (congrArg some (by kernel_rfl))
 f128:=func159.trans (congrArg some (by kernel_rfl))
 f129:=func160.trans (congrArg some (by kernel_rfl))
 f190:=func83.trans (congrArg some (by kernel_rfl))
 f258:=func121.trans (congrArg some (by kernel_rfl))
 f302:=func150.trans (congrArg some (by kernel_rfl))
 f303:=func151.trans (congrArg some (by kernel_rfl))
 f304:=func152.trans (congrArg some (by kernel_rfl))
 f305:=func153.trans (congrArg some (by kernel_rfl))
 f306:=func154.trans (congrArg some (by kernel_rfl))
 f307:=func155.trans (congrArg some (by kernel_rfl))
 f308:=func156.trans (congrArg some (by kernel_rfl))
 f309:=func157.trans (congrArg some (by kernel_rfl))
 f310:=func158.trans (congrArg some (by kernel_rfl))
 f329:=func182.trans (congrArg some (by kernel_rfl))
 f330:=func183.trans (congrArg some (by kernel_rfl))
 f333:=func181.trans (congrArg some (by kernel_rfl))
 f334:=func184.trans (congrArg some (by kernel_rfl))
 f335:=func185.trans (congrArg some (by kernel_rfl))
 f336:=func186.trans (congrArg some (by kernel_rfl))
 f344:=func202.trans (congrArg some (by kernel_rfl))
 t0:=underlying0
 a0:=isAgg0
 z0:=sizeOf0
 v0:=zeroValue0
 t3:=underlying3
 a3:=isAgg3
 z3:=sizeOf3
 v3:=zeroValue3
 t4:=underlying4
 a4:=isAgg4
 z4:=sizeOf4
 v4:=zeroValue4
 t5:=underlying5
 a5:=isAgg5
 z5:=sizeOf5
 v5:=zeroValue5
 t9:=underlying9
 a9:=isAgg9
 z9:=sizeOf9
 v9:=zeroValue9
 t31:=underlying22
 a31:=isAgg22
 z31:=sizeOf22
 v31:=zeroValue22
 t46:=underlying169
 a46:=isAgg169
 z46:=sizeOf169
 v46:=zeroValue169
 t51:=underlying234
 a51:=isAgg234
 z51:=sizeOf234
 v51:=zeroValue234
 t53:=underlying108
 a53:=isAgg108
 z53:=sizeOf108
 v53:=zeroValue108
 t131:=underlying143
 a131:=isAgg143
 z131:=sizeOf143
 v131:=zeroValue143
 t182:=underlying227
 a182:=isAgg227
 z182:=sizeOf227
 v182:=zeroValue227
 t183:=underlying228
 a183:=isAgg228
 z183:=sizeOf228
 v183:=zeroValue228
 t218:=underlying251
 a218:=isAgg251
 z218:=sizeOf251
 v218:=zeroValue251
 t222:=underlying155
 a222:=isAgg155
 z222:=sizeOf155
 v222:=zeroValue155
 t228:=underlying264
 a228:=isAgg264
 z228:=sizeOf264
 v228:=zeroValue264
 t229:=underlying67
 a229:=isAgg67
 z229:=sizeOf67
 v229:=zeroValue67 }
open Go.Sort Go.RowKit in
theorem slices_Sort_string(blk off cap:Nat)(ss:List (List UInt8))(w:World)(hH:Holds encStr w blk off ss.toArray)(hblk:blk<w.heap.size)(hsz:ss.length<4611686018427387904) :
 Calls prog 83 #[.slice (some ⟨blk,off,none⟩) ss.length cap] w fun e w' =>
  e=.returned (.tuple #[])∧∃n os,w'=grow (putRow encStr (Sort.ahead w n) blk off (ss.mergeSort fun x y=>decide (x≤y)).toArray) os:=Any.slices_Sort_string zsd blk off cap ss w hH hblk hsz
def zq3:Go.Shelf.Ren:=⟨fun|99=>70|206=>100|n=>n,fun|9=>9|4=>4|3=>3|n=>n,fun|n=>n⟩
theorem y9t:Go.Proofs.Lays.n99 prog zq3:={
 mixed:=by kernel_rfl
 f99:=func70.trans (congrArg some (by kernel_rfl))
 f206:=func100.trans (congrArg some (by kernel_rfl))
 t3:=underlying3
 a3:=isAgg3
 z3:=sizeOf3
 v3:=zeroValue3
 t4:=underlying4
 a4:=isAgg4
 z4:=sizeOf4
 v4:=zeroValue4
 t9:=underlying9
 a9:=isAgg9
 z9:=sizeOf9
 v9:=zeroValue9 }
open Go.RowKit Go.Lib in
theorem strings_HasPrefix(s p:ByteArray)(w:World) :
 Calls prog 70 #[.string s,.string p] w fun e w'=>e=.returned (.bool (Lib.hasPrefix s.data.toList p.data.toList))∧w'=w:=Any.strings_HasPrefix y9t s p w
open Go.RowKit Go.Sort in
theorem slices_Sort_string_none(p:Option Addr)(cap:Nat)(w:World) :
 Calls prog 83 #[.slice p 0 cap] w fun e w'=>e=.returned (.tuple #[])∧w'=w:=Any.slices_Sort_string_none zsd p cap w
def laysSlF6_f124_ren:Go.Shelf.Ren:=⟨fun|6=>124|15=>122|14=>162|28=>159|29=>160|20=>187|21=>188|22=>189|23=>190|24=>191|25=>192|26=>193|27=>194|46=>203|47=>182|48=>183|49=>204|50=>205|57=>213|n=>n,fun|22=>30|24=>3|25=>203|3=>3|39=>169|0=>0|53=>234|55=>108|4=>4|46=>228|45=>227|50=>143|5=>5|9=>9|66=>251|70=>155|76=>264|77=>67|n=>n,fun|n=>n⟩
theorem zhs:Go.Proofs.SlLaysF.n6 prog laysSlF6_f124_ren:={
 mixed:=by kernel_rfl
 f6:=⟨f124.name,by decide,func124.trans (congrArg some (by kernel_rfl))⟩
 f14:=⟨f162.name,by decide,func162.trans (congrArg some (by kernel_rfl))⟩
 f15:=func122.trans (congrArg some (by kernel_rfl))
 f20:=⟨f187.name,by decide,func187.trans (congrArg some (by kernel_rfl))⟩
 f21:=⟨f188.name,by decide,func188.trans (congrArg some (by kernel_rfl))⟩
 f22:=⟨f189.name,by decide,func189.trans (congrArg some (by kernel_rfl))⟩
 f23:=⟨f190.name,by decide,func190.trans (congrArg some (by kernel_rfl))⟩
 f24:=⟨f191.name,by decide,func191.trans (congrArg some (by kernel_rfl))⟩
 f25:=⟨f192.name,by decide,func192.trans (congrArg some (by kernel_rfl))⟩
 f26:=⟨f193.name,by decide,func193.trans (congrArg some (by kernel_rfl))⟩
 f27:=⟨f194.name,by decide,func194.trans (congrArg some (by kernel_rfl))⟩
 f28:=func159.trans (congrArg some (by kernel_rfl))
 f29:=func160.trans (congrArg some (by kernel_rfl))
 f46:=⟨f203.name,by decide,func203.trans (congrArg some (by kernel_rfl))⟩
 f47:=func182.trans (congrArg some (by kernel_rfl))
 f48:=func183.trans (congrArg some (by kernel_rfl))
 f49:=⟨f204.name,by decide,func204.trans (congrArg some (by kernel_rfl))⟩
 f50:=⟨f205.name,by decide,func205.trans (congrArg some (by kernel_rfl))⟩
 f57:=⟨f213.name,by decide,func213.trans (congrArg some (by kernel_rfl))⟩
 t0:=underlying0
 a0:=isAgg0
 z0:=sizeOf0
 v0:=zeroValue0
 t3:=underlying3
 a3:=isAgg3
 z3:=sizeOf3
 v3:=zeroValue3
 t4:=underlying4
 a4:=isAgg4
 z4:=sizeOf4
 v4:=zeroValue4
 t5:=underlying5
 a5:=isAgg5
 z5:=sizeOf5
 v5:=zeroValue5
 t9:=underlying9
 a9:=isAgg9
 z9:=sizeOf9
 v9:=zeroValue9
 t22:=underlying30
 a22:=isAgg30
 z22:=sizeOf30
 v22:=zeroValue30
 a24:=isAgg3
 z24:=sizeOf3
 t25:=underlying203
 a25:=isAgg203
 z25:=sizeOf203
 v25:=zeroValue203
 t39:=underlying169
 a39:=isAgg169
 z39:=sizeOf169
 v39:=zeroValue169
 t45:=underlying227
 a45:=isAgg227
 z45:=sizeOf227
 v45:=zeroValue227
 t46:=underlying228
 a46:=isAgg228
 z46:=sizeOf228
 v46:=zeroValue228
 t50:=underlying143
 a50:=isAgg143
 z50:=sizeOf143
 v50:=zeroValue143
 t53:=underlying234
 a53:=isAgg234
 z53:=sizeOf234
 v53:=zeroValue234
 t55:=underlying108
 a55:=isAgg108
 z55:=sizeOf108
 v55:=zeroValue108
 t66:=underlying251
 a66:=isAgg251
 z66:=sizeOf251
 v66:=zeroValue251
 t70:=underlying155
 a70:=isAgg155
 z70:=sizeOf155
 v70:=zeroValue155
 t76:=underlying264
 a76:=isAgg264
 z76:=sizeOf264
 v76:=zeroValue264
 t77:=underlying67
 a77:=isAgg67
 z77:=sizeOf67
 v77:=zeroValue67 }
open Go.RowKit Go.Lib Go.Sort in
theorem slices_SortFunc_eq{α:Type}[Inhabited α](enc:α→Value)(h1:OneCell enc)(cf:α→α→Int)(hO:SWO (ltOf cf))(g:Nat)(cb:Array Value)(blk off cap:Nat)(d:Array α)(w:World)(eg:∀args w,(callFunc g args).run prog w=.ok (.enter g args) w)(hcmp:CmpLays1 prog g cb enc cf blk off d.size w)(hH:Holds enc w blk off d)(hblk:blk<w.heap.size)(hsz:d.size<4611686018427387904) :
 Calls prog 124 #[.slice (some ⟨blk,off,none⟩) d.size cap,.func (.func g) #[] cb] w fun e w' =>
  e=.returned (.tuple #[])∧∃n os,w'=sortWorld enc w blk off n (pdq (ltOf cf) d 0 d.size (Lib.bitLen d.size) true true) os:=Any.slices_SortFunc_eq zhs enc h1 cf hO g cb blk off cap d w eg hcmp hH hblk hsz
def laysSlF06_f124_ren:Go.Shelf.Ren:=⟨fun|6=>124|15=>122|14=>162|28=>159|29=>160|20=>187|21=>188|22=>189|23=>190|24=>191|25=>192|26=>193|27=>194|46=>203|47=>182|48=>183|49=>204|50=>205|57=>213|n=>n,fun|22=>30|24=>3|25=>203|3=>3|39=>169|0=>0|53=>234|55=>108|4=>4|46=>228|45=>227|50=>143|5=>5|9=>9|66=>251|70=>155|76=>264|77=>67|n=>n,fun|n=>n⟩
theorem zf5:Go.Proofs.SlLaysF0.n6 prog laysSlF06_f124_ren:={
 mixed:=by kernel_rfl
 f6:=⟨f124.name,by decide,func124.trans (congrArg some (by kernel_rfl))⟩
 f14:=⟨f162.name,by decide,func162.trans (congrArg some (by kernel_rfl))⟩
 f15:=func122.trans (congrArg some (by kernel_rfl))
 f20:=⟨f187.name,by decide,func187.trans (congrArg some (by kernel_rfl))⟩
 f21:=⟨f188.name,by decide,func188.trans (congrArg some (by kernel_rfl))⟩
 f22:=⟨f189.name,by decide,func189.trans (congrArg some (by kernel_rfl))⟩
 f23:=⟨f190.name,by decide,func190.trans (congrArg some (by kernel_rfl))⟩
 f24:=⟨f191.name,by decide,func191.trans (congrArg some (by kernel_rfl))⟩
 f25:=⟨f192.name,by decide,func192.trans (congrArg some (by kernel_rfl))⟩
 f26:=⟨f193.name,by decide,func193.trans (congrArg some (by kernel_rfl))⟩
 f27:=⟨f194.name,by decide,func194.trans (congrArg some (by kernel_rfl))⟩
 f28:=func159.trans (congrArg some (by kernel_rfl))
 f29:=func160.trans (congrArg some (by kernel_rfl))
 f46:=⟨f203.name,by decide,func203.trans (congrArg some (by kernel_rfl))⟩
 f47:=func182.trans (congrArg some (by kernel_rfl))
 f48:=func183.trans (congrArg some (by kernel_rfl))
 f49:=⟨f204.name,by decide,func204.trans (congrArg some (by kernel_rfl))⟩
 f50:=⟨f205.name,by decide,func205.trans (congrArg some (by kernel_rfl))⟩
 f57:=⟨f213.name,by decide,func213.trans (congrArg some (by kernel_rfl))⟩
 t0:=underlying0
 a0:=isAgg0
 z0:=sizeOf0
 v0:=zeroValue0
 t3:=underlying3
 a3:=isAgg3
 z3:=sizeOf3
 v3:=zeroValue3
 t4:=underlying4
 a4:=isAgg4
 z4:=sizeOf4
 v4:=zeroValue4
 t5:=underlying5
 a5:=isAgg5
 z5:=sizeOf5
 v5:=zeroValue5
 t9:=underlying9
 a9:=isAgg9
 z9:=sizeOf9
 v9:=zeroValue9
 t22:=underlying30
 a22:=isAgg30
 z22:=sizeOf30
 v22:=zeroValue30
 t25:=underlying203
 a25:=isAgg203
 z25:=sizeOf203
 v25:=zeroValue203
 t39:=underlying169
 a39:=isAgg169
 z39:=sizeOf169
 v39:=zeroValue169
 t45:=underlying227
 a45:=isAgg227
 z45:=sizeOf227
 v45:=zeroValue227
 t46:=underlying228
 a46:=isAgg228
 z46:=sizeOf228
 v46:=zeroValue228
 t50:=underlying143
 a50:=isAgg143
 z50:=sizeOf143
 v50:=zeroValue143
 t53:=underlying234
 a53:=isAgg234
 z53:=sizeOf234
 v53:=zeroValue234
 t55:=underlying108
 a55:=isAgg108
 z55:=sizeOf108
 v55:=zeroValue108
 t66:=underlying251
 a66:=isAgg251
 z66:=sizeOf251
 v66:=zeroValue251
 t70:=underlying155
 a70:=isAgg155
 z70:=sizeOf155
 v70:=zeroValue155
 t76:=underlying264
 a76:=isAgg264
 z76:=sizeOf264
 v76:=zeroValue264
 t77:=underlying67
 a77:=isAgg67
 z77:=sizeOf67
 v77:=zeroValue67 }
open Go.RowKit Go.Lib Go.Sort in
theorem slices_SortFunc_none{α:Type}[Inhabited α](p:Option Addr)(cap:Nat)(fv:Value)(w:World) :
 Calls prog 124 #[.slice p 0 cap,fv] w fun e w'=>e=.returned (.tuple #[])∧w'=w:=AnyF.slices_SortFunc_none zf5 p cap fv w
end Go.Proofs.YtmcggompdmngmaaGreatDoor
namespace Go.Proofs.YtmcggompdmngmaaGreatDoor
open Go.Ab Go.Lx Go.RowKit Go.Sort Go.Rx Go.Ax
set_option maxHeartbeats 4000000
set_option maxRecDepth 100000
theorem zur:∀a b:List UInt8,a<b↔Op.bytesLess a b=true
 | [],[]=>by simp[Op.bytesLess,List.lt_irrefl]
 | _::_,[]=>by simp[Op.bytesLess]
 | [],_::_=>by simp[Op.bytesLess]
 | x::a,y::b=>by
  rw[List.cons_lt_cons_iff,Op.bytesLess,zur a b]
  simp
def toB(l:List UInt8):ByteArray:=⟨l.toArray⟩
def y1n(W:List ByteArray):List ByteArray:=((W.map fun w=>w.data.toList).mergeSort fun x y=>decide (x≤y)).map toB
theorem zki(W:List ByteArray):(y1n W).Perm W:=by
 have h:=(List.mergeSort_perm (W.map fun w=>w.data.toList) fun x y=>decide (x≤y)).map toB
 rw[List.map_map]at h
 have e:W.map (toB ∘ fun w=>w.data.toList)=W:=by
  conv=>rhs;rw[←List.map_id W]
  exact List.map_congr_left fun w _=>rfl
 rw[e]at h
 exact h
theorem y0i{W v:List ByteArray}(hn:W.Nodup)(hm:∀z,z∈W↔z∈v):y1n W=wds v:=by
 refine y9c ?_ fun z=>by rw[(zki W).mem_iff,hm]
 have hnd:(y1n W).Nodup:=(zki W).nodup_iff.2 hn
 have hs:((W.map fun w=>w.data.toList).mergeSort fun x y=>decide (x≤y)).Pairwise fun x y=>decide (x≤y)=true :=
  List.pairwise_mergeSort (fun a b c h1 h2=>by simp only[zA3]at *;exact List.le_trans h1 h2) (fun a b=>by simp only[zAu,zA3];exact List.le_total a b) _
 rw[y1n]at hnd⊢
 rw[zc8,List.pairwise_map]
 have hnd2:=List.pairwise_map.1 hnd
 refine(hs.and hnd2).imp fun {a b} h=>?_
 obtain⟨h1,h2⟩:=h
 rw[←zdx,←zur]
 have h1:=of_decide_eq_true h1
 have e:∀l:List UInt8,(toB l).toList=l:=fun l=>by rw[ByteArray.toList_eq];rfl
 rw[e,e]
 rcases List.le_iff_lt_or_eq.1 h1 with h|h
 ·exact h
 ·exact absurd (by rw[h]) h2
theorem y6t(W:List ByteArray)(hn:W.length<4611686018427387904)(d x:Nat) :
 z0u prog 83 [.ref (d,x)] [((d,x),.row 9 1 (W.map stc))] [((d,x),.row 9 1 ((y1n W).map stc))] (.tup []):=by
 have hpl:Plain prog 83:=⟨_,func83,by kernel_rfl,by kernel_rfl⟩
 have key:=zdk (α:=List UInt8) (P:=prog) (f:=83) (e:=9) encStr (fun _=>rfl) hpl [] [] d x (W.map fun w=>w.data.toList) ((W.map fun w=>w.data.toList).mergeSort fun x y=>decide (x≤y)) (List.length_mergeSort _) (fun H β own w vs hHR hb hx hA blk cap hβ hH hblk hpos=>by
  obtain⟨hl,_⟩:=hA
  obtain rfl:vs=[]:=List.eq_nil_of_length_eq_zero (by simpa using hl.symm)
  exact slices_Sort_string blk 0 cap _ w hH hblk (by simpa using hn)) (fun p cap w vs hl=>by
  obtain rfl:vs=[]:=List.eq_nil_of_length_eq_zero (by simpa using hl)
  exact slices_Sort_string_none p cap w)
 have e1:(W.map fun w=>w.data.toList).map (fun l=>[D.lit (encStr l)])=W.map stc:=by rw[List.map_map];rfl
 have e2:((W.map fun w=>w.data.toList).mergeSort fun x y=>decide (x≤y)).map (fun l=>[D.lit (encStr l)])=(y1n W).map stc:=by rw[y1n,List.map_map];rfl
 rw[e1,e2]at key
 exact key
end Go.Proofs.YtmcggompdmngmaaGreatDoor
namespace Go.Proofs.YtmcggompdmngmaaGreatDoor
open Go.Ab Go.Lx
set_option maxHeartbeats 20000000
set_option maxRecDepth 100000
attribute [local irreducible] Run Ops Op1 z0y Val Tr z0a z0u NF Rel z27 z29
abbrev lexB(W:List ByteArray)(C:List Nat)(rv:D):Blk:=.box [.d (.slice (W.map stc)),.d (.slice (C.map nmc)),.d rv]
section
variable{X:Nat}(W:List ByteArray)(C:List Nat)(rv:D)
theorem zjo(e0:Nat):z0u prog 35 [.ptr (e0,X) 0] [((e0,X),lexB W C rv)] [] (I .i64 W.length):=by
 refine z0v fun H hH=>?_
 have hX:=hH ((e0,X),lexB W C rv) (by simp)
 refine z05 func35 (by kernel_rfl) rfl (by simp) ?_
 dsimp only[f35]
 repeat' first|(apply z1f;refine zcl hX ?_)|refine z04 ?_|fail
 all_goals ((repeat rw[z1v]);first|exact z03 func35 _ (z0h rfl rfl rfl rfl rfl rfl rfl) ⟨rfl,rfl⟩|exact z03 func35 _ z1z ⟨rfl,rfl⟩|exact z03 func35 _ z1h ⟨rfl,rfl⟩|exact z03 func35 _ z7k ⟨rfl,rfl⟩)
theorem zrm(e0:Nat)(i:Nat)(hi:i<W.length):z0u prog 36 [.ptr (e0,X) 0,I .i64 (i:Nat)] [((e0,X),lexB W C rv)] [] (.tup [S (wd W i),B true]):=by
 refine z0v fun H hH=>?_
 have hX:=hH ((e0,X),lexB W C rv) (by simp)
 refine z05 func36 (by kernel_rfl) rfl (by simp) ?_
 dsimp only[f36]
 have hw:=z4s hi
 repeat' first|(apply z1f;refine zcl hX ?_)|(apply z01;refine z07 (z11 (ys:=W.map stc) rfl (idx hw)) rfl rfl ?_)|refine z04 ?_|refine fk (fun _=>?_) fun _=>?_
 all_goals try omega
 all_goals ((repeat rw[z1v]);first|exact z03 func36 _ (z0h rfl rfl rfl rfl rfl rfl rfl) ⟨rfl,rfl⟩|exact z03 func36 _ z1z ⟨rfl,rfl⟩|exact z03 func36 _ z1h ⟨rfl,rfl⟩|exact z03 func36 _ z7k ⟨rfl,rfl⟩)
end
open Go.Ab Go.Lx Go.RowKit Go.Sort Go.Lib
set_option maxHeartbeats 4000000
theorem y7q(B g o cap n:Nat)(s:Nat→ByteArray)(W:World)(hs:W.cell? ⟨B,0,none⟩=some (.slice (some ⟨g,o,none⟩) n cap))(hc:∀t,t<n→W.cell? ⟨g,o+t,none⟩=some (.string (s t)))(i j:Nat)(hi:i<n)(hj:j<n)(hn:n<4611686018427387904) :
 Calls prog 125 #[.int .i64 i,.int .i64 j,.pointer (some ⟨B,0,none⟩)] W fun e w'=>e=.returned (.int .i64 (Lib.compareBytes (s i).data.toList (s j).data.toList))∧∃q os',w'=grow (W.drewN q) os':=by
 have ci:=hc i hi
 have cj:=hc j hj
 have hcon:=fun W'=>strings_Compare (s i) (s j) W'
 generalize Lib.compareBytes (s i).data.toList (s j).data.toList=r at hcon⊢
 go_enter func125,ntmps125
 go_wp2
 go_quiet ((go_at_call 126;refine Calls.quiet_of_same (hcon _)))
 go_wp2
 go_ret
 exact⟨rfl,nq,#[],by rw[grow_empty]⟩
def cfV(rv:List ByteArray)(i j:Fin rv.length):Int:=Lib.compareBytes (rv[i]).data.toList (rv[j]).data.toList
theorem zl2:∀a b:List UInt8,Lib.compareBytes a b<0↔a<b:=by
 intro a
 induction a with
 | nil =>
  intro b
  cases b with
  | nil=>simp[Lib.compareBytes]
  | cons y b=>simp[Lib.compareBytes]
 | cons x a ih =>
  intro b
  cases b with
  | nil=>simp[Lib.compareBytes]
  | cons y b =>
   rw[Lib.compareBytes,List.cons_lt_cons_iff]
   by_cases h1:x<y
   ·simp[h1]
   ·by_cases h2:y<x
    ·have:x≠y:=fun e=>by subst e;exact absurd h2 (by simp)
     simp[h1,h2,this]
    ·have e:x=y:=by
      have a1:=UInt8.not_lt.1 h1
      have a2:=UInt8.not_lt.1 h2
      exact UInt8.le_antisymm a2 a1
     subst e
     simp[ih]
theorem ydo(rv:List ByteArray):SWO (ltOf (cfV rv)) where
 irrefl i:=by simp[ltOf,cfV,zl2,List.lt_irrefl]
 trans i j k h1 h2:=by simp only[ltOf,cfV,zA3,zl2]at *;exact List.lt_trans h1 h2
 ntrans i j k h1 h2:=by
  simp only[ltOf,cfV,zA5,zl2,List.not_lt]at *
  exact List.le_trans h2 h1
noncomputable def zwr(rv:List ByteArray):List Nat:=if h:0<rv.length then
 haveI:Inhabited (Fin rv.length):=⟨⟨0,h⟩⟩
 (pdq (ltOf (cfV rv)) (List.finRange rv.length).toArray 0 rv.length (Lib.bitLen rv.length) true true).toList.map (·.val)
 else []
theorem zsw(n:Nat):(List.finRange n).map (·.val)=List.range n:=by
 apply List.ext_getElem
 ·simp
 ·intro i h1 h2;simp
theorem y40(rv:List ByteArray)(hn:rv.length<4611686018427387904)(d x Y:Nat)(hxY:x≠Y) :
 z0u prog 124 [.ref (d,x),.fn (.func 125) [] [.ptr (d,Y) 0]] [((d,x),.row 3 1 ((List.range rv.length).map nmc)),((d,Y),.box [.d (.slice (rv.map stc))])] [((d,x),.row 3 1 ((zwr rv).map nmc))] (.tup []):=by
 have hpl:Plain prog 124:=⟨_,func124,by kernel_rfl,by kernel_rfl⟩
 have hnone:∀(p:Option Addr) (cap:Nat) (w:World) (vs:List Value),vs.length=[PV.fn (.func 125) [] [.ptr (d,Y) 0]].length→Calls prog 124 (Value.slice p 0 cap::vs).toArray w fun e w'=>e=.returned (.tuple #[])∧w'=w:=fun p cap w vs hl=>by
  obtain⟨v,rfl⟩:∃v,vs=[v]:=by
   match vs,hl with
   | [v],_=>exact⟨v,rfl⟩
  exact slices_SortFunc_none (α:=Nat) p cap v w
 by_cases h:0<rv.length
 ·letI:Inhabited (Fin rv.length):=⟨⟨0,h⟩⟩
  have eg:∀args w,(callFunc 125 args).run prog w=.ok (.enter 125 args) w:=enters_of func125 (by kernel_rfl) rfl
  obtain⟨S,hS⟩:∃S,(pdq (ltOf (cfV rv)) (List.finRange rv.length).toArray 0 rv.length (Lib.bitLen rv.length) true true).toList=S:=⟨_,rfl⟩
  have hrev:zwr rv=S.map (·.val):=by
   rw[zwr,dif_pos h,←hS]
  have hSl:S.length=(List.finRange rv.length).length:=by
   have:=(pdq_sorts (ltOf (cfV rv)) (ydo rv) (List.finRange rv.length).toArray 0 rv.length (Lib.bitLen rv.length) true true (zAf _) (by simp) (Or.inl rfl)).1.1
   rw[←hS];simpa using this
  have key:=zdk (α:=Fin rv.length) (P:=prog) (f:=124) (e:=3) (fun i=>.int .i64 (i.val:Int)) (fun _=>rfl) hpl [.fn (.func 125) [] [.ptr (d,Y) 0]] [((d,Y),.box [.d (.slice (rv.map stc))])] d x (List.finRange rv.length) S hSl (fun H β own w vs hHR hb hx hA blk cap hβ hH hblk hpos=>?_) hnone
  ·have e1:(List.finRange rv.length).map (fun i=>[D.lit (Value.int .i64 (i.val:Int))])=(List.range rv.length).map nmc:=by rw[←zsw,List.map_map];rfl
   have e2:S.map (fun i=>[D.lit (Value.int .i64 (i.val:Int))])=(zwr rv).map nmc:=by rw[hrev,List.map_map];rfl
   rw[e1,e2]at key
   exact key
  ·obtain⟨hl,ha⟩:=hA
   obtain⟨v,rfl⟩:∃v,vs=[v]:=by
    match vs,hl with
    | [v],_=>exact⟨v,rfl⟩
   have hv:=ha 0 _ v rfl rfl
   have hHY:=hb ((d,Y),.box [.d (.slice (rv.map stc))]) (by simp)
   have hLY:z0d H (d,Y)=some (.box [.d (.slice (rv.map stc))]):=by
    cases d with
    | zero=>exact hHY
    | succ d=>simp only[z0d];rw[hHY];rfl
   have hLx:z0d H (d,x)=some (.row 3 1 ((List.finRange rv.length).map fun i=>[D.lit (Value.int .i64 (i.val:Int))])):=by
    cases d with
    | zero=>exact hx
    | succ d=>simp only[z0d];rw[hx];rfl
   have hbY:=hHR.blk (d,Y) _ hLY
   have hdis:=hHR.inj (d,x) (d,Y) _ _ hLx hLY rfl rfl (by simp[hxY]) blk (by rw[hβ];rfl)
   have hown:=(hHR.blk (d,x) _ hLx).block_lt rfl (g:=blk) (by rw[hβ];rfl)
   generalize hBv:β (d,Y)=vB at hbY
   cases hbY with
   | box B t cs cur ho hg hl2 h1 hd =>
    obtain⟨u,rfl⟩:∃u,cur=[u]:=by
     match cur,hl2 with
     | [u],_=>exact⟨u,rfl⟩
    have hu:=hd 0 _ u rfl rfl
    have hBne:B≠blk:=fun e=>hdis (by rw[hBv,e];rfl)
    cases hu with
    | d _ _ hu =>
     have hne:rv.map stc≠[]:=by intro e;rw[List.map_eq_nil_iff]at e;rw[e]at h;simp at h
     generalize hxs:rv.map stc=xs at hu hne
     cases hu with
     | nil=>exact absurd rfl hne
     | slice _ g o cap2 k c hc hno hlt hk hcell hdd =>
      have hlen:xs.length=rv.length:=by rw[←hxs,zA4]
      have hk1:k=1:=by
       have:=hk xs[0] (List.getElem_mem _)
       rw[←this]
       subst hxs
       simp
      subst hk1
      have hgne:g≠blk:=fun e=>hno (e▸hown)
      have hcs:∀(t:Nat) (ht:t<rv.length),w.cell? ⟨g,o+t,none⟩=some (.string rv[t]):=fun t ht=>by
       have h1:=(hcell t (by omega) 0 (by decide)).1
       have h2:=hdd t (stc rv[t]) (by rw[←hxs,zAd,zA0 ht];rfl) 0 _ rfl
       rw[Nat.mul_one,Nat.add_zero]at h1
       rw[h1]
       generalize c t 0=z at h2
       cases h2 with|lit _ _=>rfl
      have hBc:w.cell? ⟨B,0,none⟩=some (.slice (some ⟨g,o,none⟩) xs.length cap2):=by rw[cell_of hg];rfl
      have hBl:B<w.heap.size:=(Array.getElem?_eq_some_iff.1 hg).1
      have hcmp:CmpLays1 prog 125 #[.pointer (some ⟨B,0,none⟩)] (fun i:Fin rv.length=>.int .i64 (i.val:Int)) (cfV rv) blk 0 (List.finRange rv.length).toArray.size w:=by
       intro m os dk hs i j
       have e:sortWorld (fun i:Fin rv.length=>Value.int .i64 (i.val:Int)) w blk 0 m dk os=putRow (fun i:Fin rv.length=>Value.int .i64 (i.val:Int)) (grow (Sort.ahead w m) os) blk 0 dk:=by
        unfold sortWorld;rw[putRow_grow _ (Sort.ahead w m) _ blk 0 _ hblk]
       refine y7q B g o cap2 rv.length (fun t=>rv.getD t ByteArray.empty) _ ?_ (fun t ht=>?_) i.val j.val i.isLt j.isLt hn |>.mono ?_
       ·rw[e,cell?_putRow_other _ _ blk 0 dk _ (Or.inl hBne),cell?_grow _ _ _ hBl,←hlen]
        exact hBc
       ·rw[e,cell?_putRow_other _ _ blk 0 dk _ (Or.inl hgne),cell?_grow _ _ _ hlt]
        have:=hcs t ht
        rw[show rv.getD t ByteArray.empty=rv[t] by simp[List.getD,ht]]
        exact this
       ·rintro e' w' ⟨rfl,q,os',hw⟩
        refine⟨?_,q,os',hw⟩
        rw[cfV]
        simp[List.getD]
      have hfin:=slices_SortFunc_eq (fun i:Fin rv.length=>Value.int .i64 (i.val:Int)) (fun _=>rfl) (cfV rv) (ydo rv) 125 #[.pointer (some ⟨B,0,none⟩)] blk 0 cap (List.finRange rv.length).toArray w eg hcmp hH hblk (by simpa using hn)
      have hvv:v=.func (.func 125) #[] #[.pointer (some ⟨B,0,none⟩)]:=by
       cases hv with
       | fn f first capl fv cv h1 h2 hd1 hd2 =>
        obtain rfl:fv=[]:=by cases fv with|nil=>rfl|cons a b=>simp at h1
        obtain⟨cz,rfl⟩:∃cz,cv=[cz]:=by
         match cv,h2 with
         | [cz],_=>exact⟨cz,rfl⟩
        have:=hd2 0 _ cz rfl rfl
        cases this with
        | ptr _ _ g' hb' =>
         rw[hBv]at hb';simp at hb';subst hb';rfl
      subst hvv
      refine hfin.mono ?_
      rintro e' w' ⟨rfl,n,os,hw⟩
      refine⟨rfl,n,os,?_⟩
      rw[hw,←hS]
      simp[sortWorld]
 ·have h0:rv=[]:=List.eq_nil_of_length_eq_zero (by omega)
  subst h0
  have hrev:zwr []=[]:=by rw[zwr,dif_neg (by simp)]
  rw[hrev]
  exact zdk (α:=Nat) (P:=prog) (f:=124) (e:=3) (fun i=>.int .i64 (i:Int)) (fun _=>rfl) hpl [.fn (.func 125) [] [.ptr (d,Y) 0]] [((d,Y),.box [.d (.slice (([]:List ByteArray).map stc))])] d x [] [] rfl (fun H β own w vs hHR hb hx hA blk cap hβ hH hblk hpos=>by simp at hpos) hnone
end Go.Proofs.YtmcggompdmngmaaGreatDoor
namespace Go.Proofs.YtmcggompdmngmaaGreatDoor
open Go.Ab Go.Lx Go.Ax
set_option maxHeartbeats 20000000
set_option maxRecDepth 100000
attribute [local irreducible] Run Ops Op1 z0y Val Tr z0a z0u NF Rel z27 z29 z5w
noncomputable def zko(W:List ByteArray):D:=.slice ((zwr (W.map zs8)).map nmc)
theorem zzb(W:List ByteArray)(C:List Nat)(hl:W.length≤2000)(hw:∀w∈W,w.size≤1000):z0u prog 84 [.ptr (0,1000) 0] [((0,1000),lexB W C (.lit z2n))] [((0,1000),lexB W C (zko W))] (.tup []):=by
 refine z0v fun H hH=>?_
 have hX:=hH ((0,1000),lexB W C (.lit z2n)) (by simp)
 refine z05 func84 (by kernel_rfl) rfl (by simp) ?_
 dsimp only[f84]
 refine z4d 1000 0 1000 hX rfl rfl ?_
 repeat' first|(apply z1s;refine z09 z4t ?_)|(apply zd8;refine zea (xs:=(List.replicate W.length ByteArray.empty).map stc) rfl rfl (by omega) (by omega) rfl rfl rfl (by decide) (by first|(simp;done)|(simp;exact .inr rfl)) ?_)|refine z04 ?_|fail
 all_goals try omega
 refine z1d 10 2001 ?_
 refine z2j 1000 2 2003 3 1 rfl rfl rfl rfl ?_
 refine z0f ?_
 refine z00 (z0s (fun z:Nat × List ByteArray × List Nat=>⟨43,[(0,.ptr (0,1000) 0),(2,.ptr (0,2) 0),(14,.d (.slice (W.map stc))),(15,I .i64 W.length),(16,I .i64 (z.1:Nat)),(101000,.al (0,1000) (1,1000))],[(2,.box [.ref (0,2001)]),(2001,.row 9 1 (z.2.1.map stc)),(1000,.box [.d (.slice (W.map stc)),.d (.slice (C.map nmc)),.ref (0,2003)]),(2003,.row 3 1 (z.2.2.map nmc))],upd H (0,1000) .gone⟩)
  (fun z=>z.1≤W.length∧z.2.1=(W.take z.1).map zs8++List.replicate (W.length-z.1) ByteArray.empty∧z.2.2=List.range z.1) (fun z=>W.length-z.1) ?_ (0,List.replicate W.length ByteArray.empty,[]) ⟨zAf _,by simp,rfl⟩) rfl rfl
 rintro⟨i,R,N⟩ ⟨i1,i2,i3⟩ ih
 simp only at i1 i2 i3 ih⊢
 have hNl:N.length=i:=by rw[i3,List.length_range]
 have hRl:R.length=W.length:=by rw[i2];simp;omega
 by_cases hlt:i<W.length
 ·have hwg:=z4s hlt
  have hrv:=zqf (wd W i) (hw _ (z9t hlt))
  obtain⟨r0,hr0⟩:∃r0,R[i]? =some r0:=⟨_,zA0 (by omega)⟩
  have ih':=ih (i+1,R.set i (zs8 (wd W i)),N++[i]) ⟨by simp only;omega,by
   simp only
   rw[i2,List.take_add_one,hwg,List.set_append_right _ _ (by simp;omega)]
   simp only[zA4,zAm,Option.toList,List.map_append,List.map_cons,List.map_nil,zAl,List.singleton_append]
   rw[show i-min i W.length=0 by omega,show W.length-i=(W.length-(i+1))+1 by omega,List.replicate_succ,List.set_cons_zero],by simp only;rw[i3,List.range_succ]⟩ (by simp only;omega)
  simp only at ih'
  repeat' first|(apply z01;refine z07 (z11 (ys:=W.map stc) rfl (idx hwg)) rfl rfl ?_)|(apply z02;refine z0c (z1a rfl (by rw[zA4];omega)) rfl rfl ?_)|(apply z14;refine z2w (g:=nmc) i rfl ?_)|(apply z0l;refine z3t hrv ?_)|(apply z10;refine z0j (zs8 (wd W i)) (by first|exact rfl|exact⟨_,rfl,rfl,rfl⟩) rfl rfl rfl rfl hr0 rfl rfl rfl rfl ?_)|refine z04 ?_|refine fk (fun _=>?_) fun _=>?_
  all_goals try omega
  refine z1d 33 2003 ?_
  exact z00 ih' rfl rfl
 ·obtain rfl:i=W.length:=by omega
  clear ih
  have hR:R=W.map zs8:=by rw[i2,List.take_length];simp
  subst hR
  subst i3
  have hso:=y40 (W.map zs8) (by rw[zA4];omega) 0 2003 2 (by decide)
  rw[zA4]at hso
  have hrev:zko W=.slice ((zwr (W.map zs8)).map nmc):=rfl
  rw[hrev]
  clear hrev
  generalize zwr (W.map zs8)=O at *
  generalize W.map zs8=V at *
  refine z0o 2001 rfl ?_
  repeat' first|(apply z0r;refine z7c rfl rfl (by decide) ?_)|(apply z06;refine zju hso rfl (z1q (m:=(0,2003)) rfl (z1q (m:=(0,2)) rfl z5l)) (by decide) rfl ?_)|refine z04 ?_|refine fk (fun _=>?_) fun _=>?_
  all_goals try omega
  all_goals refine z0o 2003 rfl ?_
  all_goals change Run _ _ _ _ ⟨43,_,_,upd H (0,1000) .gone⟩
  all_goals refine z7h (raw:=.box [.d (.slice (W.map stc)),.d (.slice (C.map nmc)),.d (.slice (O.map nmc))]) 1000 0 1000 (z1g H (0,1000) .gone) ?_
  all_goals exact ze8 func84 _ (z2o rfl) ⟨rfl,z1m _ _ _ _⟩
end Go.Proofs.YtmcggompdmngmaaGreatDoor
namespace Go.Proofs.YtmcggompdmngmaaGreatDoor
open Go.Ab Go.Lx
set_option maxHeartbeats 20000000
set_option maxRecDepth 100000
attribute [local irreducible] Run Ops Op1 z0y Val Tr z0a z0u NF Rel z27 z29
theorem zgy(n:Nat)(hn:n≤1000000000)(g:Nat)(caps:List PV)(bs1:List (Nm × Blk))(f:Nat→Bool)(hm:∀i j:Nat,i≤j→j<n→f i=true→f j=true)(H:Hf)
 (hf:∀i:Nat,i<n→z0u prog g ([I .i64 (i:Nat)]++PV.liftL 1 caps) bs1 [] (B (f i))) (hb:∀(n:Nat) (tm:List (Nat × PV)) (hp:Hp),BkE ⟨n,tm,hp,H⟩ bs1) :
 Ab.Spec prog 67 [I .i64 (n:Nat),.fn (.func g) [] caps] H (fun r H'=>r=.v (I .i64 (zig f n:Nat))∧H'=H):=by
 refine z05 func67 (by kernel_rfl) rfl (by simp) ?_
 dsimp only[f67]
 repeat' first|refine z04 ?_|fail
 all_goals try omega
 refine z0f ?_
 refine z00 (z0s (fun q:Nat × Nat=>⟨26,[(1,.fn (.func g) [] (PV.liftL 1 caps)),(5,I .i64 (q.1:Nat)),(6,I .i64 (q.2:Nat))],[],H⟩) (fun q=>q.1≤q.2∧q.2≤n∧(∀i,i<q.1→f i=false)∧(∀i,q.2≤i→i<n→f i=true)) (fun q=>q.2-q.1) ?_ (0,n) ⟨zAf _,zAj _,fun i h=>absurd h (Nat.not_lt_zero _),fun i h1 h2=>by omega⟩) rfl rfl
 rintro⟨i,j⟩ ⟨i1,i2,i3,i4⟩ ih
 simp only at i1 i2 i3 i4 ih⊢
 by_cases hlt:i<j
 ·have hh:((((i:Nat):Int)+((j:Nat):Int)) / 2)=(((i+j) / 2:Nat):Int):=by omega
  have hc:=hf ((i+j) / 2) (by omega)
  cases hv:f ((i+j) / 2)with
  | false =>
   rw[hv]at hc
   have lo:∀p,p<(i+j) / 2+1→f p=false:=fun p hp=>by
    cases hfp:f p with
    | false=>rfl
    | true=>have:=hm p ((i+j) / 2) (by omega) (by omega) hfp;rw[hv]at this;cases this
   have ih':=ih ((i+j) / 2+1,j) ⟨by simp only;omega,i2,lo,i4⟩ (by simp only;omega)
   rw[show(((i+j) / 2+1:Nat):Int)=(((i:Nat):Int)+((j:Nat):Int)) / 2+1 by omega]at ih'
   exact zD66
  | true =>
   rw[hv]at hc
   have ih':=ih (i,(i+j) / 2) ⟨by simp only;omega,by simp only;omega,i3,fun p h1 h2=>hm _ p h1 h2 hv⟩ (by simp only;omega)
   rw[hh.symm]at ih'
   exact zD66
 ·have he:zig f n=i:=zlx (by omega) i3 (fun h=>i4 i (by omega) h)
  rw[he]
  clear ih
  repeat' first|refine z04 ?_|refine fk (fun _=>?_) fun _=>?_
  all_goals try omega
  all_goals exact z03 func67 _ z1h ⟨rfl,rfl⟩
open Go.Ab Go.Lx Go.Ax
theorem y5d{W:List ByteArray}(h:zc8 W)(p:ByteArray)(i j:Nat)(hij:i≤j)(hj:j<W.length)(hi:(!ltS (wd W i) p)=true):(!ltS (wd W j) p)=true:=by
 rcases Nat.lt_or_ge i j with g|g
 ·cases e:ltS (wd W j) p with
  | false=>rfl
  | true =>
   have:=za4 (zj6 h g hj) e
   rw[ltS]at hi
   rw[this]at hi;cases hi
 ·rw[show j=i by omega];exact hi
section
variable{X:Nat}{W:List ByteArray}(C:List Nat)(rv:D)
theorem yam(e0:Nat)(w:ByteArray)(i:Nat)(hi:i<W.length):z0u prog 127 [I .i64 (i:Nat),.ptr (1,2) 0,.ptr (1,3) 0] [((1,2),.box [.ptr (e0+1,X) 0]),((1,3),.box [S w]),((e0+2,X),lexB W C rv)] [] (B (!ltS (wd W i) w)):=by
 refine z0v fun H hH=>?_
 have hA:=hH ((1,2),.box [.ptr (e0+1,X) 0]) (by simp)
 have hB:=hH ((1,3),.box [S w]) (by simp)
 have hX:=hH ((e0+2,X),lexB W C rv) (by simp)
 refine z05 func127 (by kernel_rfl) rfl (by simp) ?_
 dsimp only[f127]
 have hw:=z4s hi
 rw[←zdx]
 repeat' first|(apply z0b;first|refine z5c hX ?_| refine z5c hB ?_| refine z5c hA ?_)|(apply z02;refine z0c (z11 (ys:=W.map stc) rfl (idx hw)) rfl rfl ?_)|refine z04 ?_|fail
 all_goals ((repeat rw[z1v]);first|exact z03 func127 _ (z0h rfl rfl rfl rfl rfl rfl rfl) ⟨rfl,rfl⟩|exact z03 func127 _ z1z ⟨rfl,rfl⟩|exact z03 func127 _ z1h ⟨rfl,rfl⟩|exact z03 func127 _ z7k ⟨rfl,rfl⟩)
theorem zkc(e0:Nat)(h:zc8 W)(hl:W.length≤1000000)(w:ByteArray)(G:FuncId)(hg:∀i:Nat,i<W.length→z0u prog G [I .i64 (i:Nat),.ptr (1,2) 0,.ptr (1,3) 0] [((1,2),.box [.ptr (e0+1,X) 0]),((1,3),.box [S w]),((e0+2,X),lexB W C rv)] [] (B (!ltS (wd W i) w))) :
 z0u prog 67 [I .i64 W.length,.fn (.func G) [] [.ptr (0,2) 0,.ptr (0,3) 0]] [((0,2),.box [.ptr (e0+1,X) 0]),((0,3),.box [S w]),((e0+1,X),lexB W C rv)] [] (I .i64 (loS W w:Nat)):=by
 refine z0v fun H hH=>?_
 have hA:=hH ((0,2),.box [.ptr (e0+1,X) 0]) (by simp)
 have hB:=hH ((0,3),.box [S w]) (by simp)
 have hX:=hH ((e0+1,X),lexB W C rv) (by simp)
 exact zgy W.length (by omega) G _ _ (fun i=>!ltS (wd W i) w) (y5d h w) H (fun i hi=>hg i hi) fun n tm hp=>by simp[BkE,z3h,push,hA,hB,hX]
theorem zsi(e0:Nat)(h:zc8 W)(hl:W.length≤1000000)(w:ByteArray)(hw:w∈W):z0u prog 85 [.ptr (e0,X) 0,S w] [((e0,X),lexB W C rv)] [] (.tup [I .i64 (loS W w:Nat),B true]):=by
 refine z0v fun H hH=>?_
 have hX:=hH ((e0,X),lexB W C rv) (by simp)
 have hse:=zkc (X:=X) C rv e0 h hl w 127 fun i hi=>yam C rv e0 w i hi
 obtain⟨h1,h2⟩:=ztj h hw
 have hgw:=z4s h1
 rw[h2]at hgw
 generalize loS W w=k at *
 refine z05 func85 (by kernel_rfl) rfl (by simp) ?_
 dsimp only[f85]
 have hbk:∀(n:Nat) (tm:List (Nat × PV)),BkE ⟨n,tm,[(3,.box [S w]),(2,.box [.ptr (e0+1,X) 0])],H⟩ [((0,2),.box [.ptr (e0+1,X) 0]),((0,3),.box [S w]),((e0+1,X),lexB W C rv)]:=fun n tm=>by simp[BkE,z3h,push,Ab.look,hX]
 repeat' first|(apply z0r;refine z7c rfl rfl (by decide) ?_)|(apply z1f;refine zcl hX ?_)|(apply z0b;refine z5c hX ?_)|(apply z02;refine z0c (z11 (ys:=W.map stc) rfl (idx hgw)) rfl rfl ?_)|(apply z06;refine z3x hse (hbk _ _) ?_)|(apply z1n;refine z09 z3s ?_)|refine z04 ?_|refine fk (fun _=>?_) (fun _=>?_)|(refine z13 (fun hg=>?_) (fun hg=>?_)<;> simp only[hg] <;> (try simp only[zA3,zA5,zA6,zA8]at hg))
 all_goals try (exfalso;first|omega|(simp at *;done)|(simp at *;omega))
 all_goals ((repeat rw[z1v]);first|exact z03 func85 _ (z0h rfl rfl rfl rfl rfl rfl rfl) ⟨rfl,rfl⟩|exact z03 func85 _ z1z ⟨rfl,rfl⟩|exact z03 func85 _ z1h ⟨rfl,rfl⟩|exact z03 func85 _ z7k ⟨rfl,rfl⟩)
end
end Go.Proofs.YtmcggompdmngmaaGreatDoor
