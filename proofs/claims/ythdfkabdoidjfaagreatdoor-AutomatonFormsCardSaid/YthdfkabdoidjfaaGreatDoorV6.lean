/- A part of the proof: A32 to A37. -/
import Derived.Test.YthdfkabdoidjfaaGreatDoorV5
import Derived.Test.YthdfkabdoidjfaaGreatDoorV1
import Derived.Test.YthdfkabdoidjfaaGreatDoorV8
import Derived.Test.YthdfkabdoidjfaaGreatDoorVs
import Derived.Test.YthdfkabdoidjfaaGreatDoorVy
set_option linter.all false
namespace Go.Proofs.YthdfkabdoidjfaaGreatDoor
open Go.Ab Go.Ax Go.Rx
set_option maxHeartbeats 20000000
set_option maxRecDepth 100000
def zyc (x:Int):List Int→List Int
 | []=>[x]
 | y::l=>if x≤y then x::y::l else y::zyc x l
def y0e:List Int→List Int
 | []=>[]
 | x::l=>zyc x (y0e l)
theorem zdf (x:Int):∀ l:List Int,(zyc x l).Perm (x::l)
 | []=>List.Perm.refl _
 | y::l=>by
  rw[zyc]
  split
  · exact List.Perm.refl _
  · exact((zdf x l).cons y).trans (List.Perm.swap x y l)
theorem zik:∀ l:List Int,(y0e l).Perm l
 | []=>List.Perm.refl _
 | x::l=>(zdf x (y0e l)).trans ((zik l).cons x)
theorem zmw (x:Int):∀ l:List Int,l.Pairwise (· ≤·)→(zyc x l).Pairwise (· ≤·)
 | [],_=>by simp[zyc]
 | y::l,h=>by
  rw[zyc]
  rw[List.pairwise_cons] at h
  split
  · rename_i hx
    refine List.pairwise_cons.2 ⟨fun z hz=>?_,List.pairwise_cons.2 h⟩
    rcases zAc.1 hz with rfl|hz
    · exact hx
    · have:=h.1 z hz;omega
  · rename_i hx
    refine List.pairwise_cons.2 ⟨fun z hz=>?_,zmw x l h.2⟩
    rcases zAc.1 ((zdf x l).mem_iff.1 hz) with rfl|hz
    · omega
    · exact h.1 z hz
theorem zmr:∀ l:List Int,(y0e l).Pairwise (· ≤·)
 | []=>by simp[y0e]
 | x::l=>zmw x _ (zmr l)
theorem zvi (l:List Int):Go.Ax.srt l=y0e l:=zx2 (zik l).symm (zmr l)
def zof (L:List (List Rg)):List Int:=cpt (y0e (z4g L))
theorem zwg (L:List (List Rg)):z7z L=zof L:=by rw[z7z,zvi];rfl
theorem zyr (N:Nat) (lv:List (List Rg)):z8f N lv=(List.range ((zof (z7b N 0 lv)).length-1)).filterMap (cE N lv (zof (z7b N 0 lv))):=by
 rw[z8f,zb4,zwg]
theorem zy6 (op:Int) (l m:List Arc):z6p op l m=(List.range ((zof [z5k l,z5k m]).length-1)).filterMap (prE op l m (zof [z5k l,z5k m])):=by
 rw[z6p,z4y,zwg]
abbrev eS:Rx:=.mk 4 0 (-1) [] [.mk 2 0 0 [] [.mk 1 0 0 [(97,97)] [],.mk 1 0 0 [(98,98)] []]]
abbrev cA:Au:=⟨[true,false,true],[[(97,97,1)],[(98,98,2)],[(97,97,1)]]⟩
abbrev mA:Au:=⟨[true,false],[[(97,97,1)],[(98,98,0)]]⟩
abbrev pA:Au:=⟨[false,true,true,false],[[(0,96,1),(97,97,2),(98,1114111,1)],[(0,1114111,1)],[(0,97,1),(98,98,3),(99,1114111,1)],[(0,96,1),(97,97,2),(98,1114111,1)]]⟩
abbrev nA:Au:=⟨[false,true,true],[[(0,96,1),(97,97,2),(98,1114111,1)],[(0,1114111,1)],[(0,97,1),(98,98,0),(99,1114111,1)]]⟩
theorem y0q:bd eS tb0=(⟨[[(97,97)],[(98,98)]],[2,1]⟩,⟨1,2,true⟩):=by rfl
theorem y2b:zc0 eS=some cA:=by
 rw[zc0,zqi]
 simp only[zyr,y0q]
 kernel_rfl
theorem zwy:zfo zx9.F cA.F zx9.A cA.A 3=some pA:=by
 rw[zfo]
 simp only[zy6]
 kernel_rfl
theorem zon:z7t cA.F cA.A=some cA:=by kernel_rfl
theorem zq5 {F:List Bool} {A:List (List Arc)} (h:∀ q:Nat,q<F.length→z6n F A q):z56 F A=F.map fun _=>true:=by
 rw[z56]
 refine List.ext_getElem (by simp) fun i h1 h2=>?_
 simp only[List.getElem_map,List.getElem_range]
 simp at h1
 have h2:=h i h1
 rw[← List.getElem_range (n:=F.length) (j:=i) (by simpa using h1)] at h2
 exact @decide_eq_true _ (_) h2
theorem y0f {F:List Bool} {A:List (List Arc)} (h:∀ q:Nat,q<F.length→z6n F A q):cl0 F A=F.map fun b=>if b=true then 1 else 0:=by
 rw[cl0,zq5 h]
 refine List.ext_getElem (by simp) fun i h1 h2=>?_
 simp at h1
 simp[h1]
theorem zry {F:List Bool} {A:List (List Arc)} (h:∀ q:Nat,q<F.length→z6n F A q) (lim:Nat):zoe F A lim=match zkm A lim (F.length+1) 0 (F.map fun b=>if b=true then 1 else 0) with
 | none=>none
 | some cl=>if cl.getD 0 0<0 then some ⟨[false],[[]]⟩ else y36 F A cl lim:=by
 rw[zoe,zwz,y0f h]
 generalize zkm A lim (F.length+1) 0 (F.map fun b=>if b=true then 1 else 0)=o
 cases o <;> rfl
theorem y44:∀ q:Nat,q<cA.F.length→z6n cA.F cA.A q:=fun q hq=>by
 have:q=0∨q=1∨q=2:=by simp at hq;omega
 have l2:z6n cA.F cA.A 2:=.fin 2 rfl
 rcases this with rfl|rfl|rfl
 · exact .fin 0 rfl
 · exact .arc 1 [(98,98,2)] (98,98,2) rfl (by simp) l2
 · exact l2
theorem y4a:∀ q:Nat,q<pA.F.length→z6n pA.F pA.A q:=fun q hq=>by
 have:q=0∨q=1∨q=2∨q=3:=by simp at hq;omega
 have l1:z6n pA.F pA.A 1:=.fin 1 rfl
 rcases this with rfl|rfl|rfl|rfl
 · exact .arc 0 _ (0,96,1) rfl (by simp) l1
 · exact l1
 · exact .fin 2 rfl
 · exact .arc 3 _ (0,96,1) rfl (by simp) l1
theorem y58:zoe cA.F cA.A 256=some mA:=by
 rw[zry y44]
 kernel_rfl
theorem y4x:zoe pA.F pA.A 256=some nA:=by
 rw[zry y4a]
 kernel_rfl
theorem y56:val eS=0:=by rfl
theorem y5k:fit eS:=by simp[fit,zd0]
theorem y48 (N:Nat):(z4g (z7b N 0 [[(97,97)],[(98,98)]])).length≤12:=by
 simp only[z7b]
 split <;> split <;> simp[z4g,ends]
theorem zqv:∀ {l:List Arc} {p:Option Arc},okA p l→(l.map fun x=>x.1).Pairwise (· <·)
 | [],_,_=>List.Pairwise.nil
 | x::l,p,h=>by
  rw[List.map_cons,List.pairwise_cons]
  refine⟨fun z hz=>?_,zqv h.2.2.2⟩
  obtain⟨e,he,rfl⟩:=List.mem_map.1 hz
  have:=zi1 h.2.2.2 e he
  have:=h.1
  omega
theorem zjq {l:List Arc} {p:Option Arc} (h:okA p l) (hr:∀ x∈l,0≤x.1∧x.1≤1114111):l.length≤1114112:=by
 have:=zji (B:=1114111) (zqv h) fun z hz=>by
  obtain⟨e,he,rfl⟩:=List.mem_map.1 hz
  have:=hr e he
  omega
 rw[zA4] at this
 exact this
theorem zm7 {B:Nat}:∀ {A:List (List Arc)},(∀ l∈A,l.length≤B)→(A.map List.length).sum≤A.length*B
 | [],_=>by simp
 | l::A,h=>by
  rw[List.map_cons,List.sum_cons,zAk,Nat.succ_mul]
  have:=h l (by simp)
  have:=zm7 (A:=A) fun m hm=>h m (by simp[hm])
  omega
theorem zcz {a:Au} (h:vAu a=0):zci a.F a.A∧∀ l∈a.A,l.length≤1114112:=by
 have hv:=zd1 h
 have hl:∀ l∈a.A,l.length≤1114112:=fun l hl=>zjq (hv.arc l hl).1 fun x hx=>by have:=(hv.arc l hl).2 x hx;omega
 have hs:=zm7 hl
 have h1:=hv.few
 have h2:=hv.len
 have h3:a.A.length*1114112≤256*1114112:=Nat.mul_le_mul_right _ (by omega)
 exact⟨⟨hv.len,fun l h=>⟨(hv.arc l h).1,by have:=hl l h;omega,(hv.arc l h).2⟩,by omega,hv.pos,by omega⟩,hl⟩
theorem zga {a:Au} (h:vAu a=0):zo9 a:=by
 have h1:=(zcz h).1
 have h2:=h1.len
 have h3:=h1.few
 exact⟨by omega,by omega,fun l hl=>by have:=(zcz h).2 l hl;omega⟩
theorem okC:zci cA.F cA.A:=(zcz (a:=cA) (by kernel_rfl)).1
theorem y43:zci pA.F pA.A:=(zcz (a:=pA) (by kernel_rfl)).1
theorem y5t:zci zx9.F zx9.A:=(zcz (a:=zx9) (by kernel_rfl)).1
theorem y2v:zo9 cA:=⟨by decide,by decide,by decide⟩
theorem y1q:zo9 nA:=⟨by decide,by decide,by decide⟩
theorem zzc:zo9 zx9:=⟨by decide,by decide,by decide⟩
theorem zz5:z0y Tryz.prog 33 [.d (Drx eS)] (.tup [.d (auD cA),I .i64 0]):=by
 have h:=zi7 zna (by decide) eS y5k y56 (by rw[y0q];exact y32) (by rw[y0q];decide) (by rw[y0q];decide) (by rw[y0q];decide) (by rw[y0q];exact y48)
 rw[y2b] at h
 exact h
theorem y3l:z0y Tryz.prog 21 [.d (auD cA)] (.tup [.d (auD mA),I .i64 0]):=by
 have hm:zn5 cA=mA:=by rw[zn5,zon,Option.getD_some,y58];rfl
 have h:=zav cA y2v (by kernel_rfl) okC (by rw[zon];exact okC)
 rw[hm] at h
 exact h
theorem y3i:z0y Tryz.prog 26 [.d (auD cA)] (.tup [.d (auD nA),I .i64 0]):=by
 have h:=y4r zna (by decide) zx9 cA 3 zzc y2v (by kernel_rfl) (by kernel_rfl) (by decide) (by decide) y5t okC (n:=1) (m:=1) (by decide) (by decide) (by decide) (fun x hx=>by rw[zwy] at hx;simp only[zAh] at hx;rw[← hx];exact y43)
 rw[y5r,zwy,Option.bind_some,y4x] at h
 exact zyd cA ⟨nA,0,rfl⟩ h
theorem y1k:zzf nA ⟨#[97]⟩=true:=by kernel_rfl
theorem y1w:zzf nA ⟨#[]⟩=false:=by kernel_rfl
attribute [local irreducible] Run Ops Op1 z2a Val Tr z0y z1x NF Rel z3i z3g zac
theorem zpn (τ:Tab):z1x Tryz.prog 18 [] (zfm τ 0) [] (B true):=by
 refine z2f fun H hH=>?_
 have hX0:=hH ((0,700),.glob 0 τ.o0) (by simp)
 have hX1:=hH ((0,701),.glob 1 τ.o1) (by simp)
 have p1:=zvc τ
 have q1:=zz5
 have q2:=y3l
 have q3:=y3i
 have q4:=zxo nA y1q (by decide) ⟨#[97]⟩ (by decide)
 have q5:=zxo nA y1q (by decide) ⟨#[]⟩ (by decide)
 rw[y1k] at q4
 rw[y1w] at q5
 refine z0k Tryz.func18 (by kernel_rfl) rfl (by simp) ?_
 dsimp only[Tryz.f18]
 refine z3u 700 0 700 hX0 ?_
 refine z3u 701 0 701 (z0i hX1 (by simp)) ?_
 repeat' (first|(apply z07;(first|refine z0r ?_| (apply z0b;(first|refine z02 z1i rfl rfl ?_| refine z02 z2r rfl rfl ?_| refine z02 z1y rfl rfl ?_))|(apply z0e;(refine z02 z0q rfl rfl ?_))|(apply z0m;(refine z02 (z4p rfl (by decide) rfl rfl) rfl rfl ?_))|(apply z11;(refine z02 (z1k rfl) rfl rfl ?_))|(apply z0s;(first|refine z3p p1 rfl rfl (by decide) ?_|refine z1w q1 ?_| refine z1w q2 ?_| refine z1w q3 ?_| refine z1w q4 ?_| refine z1w q5 ?_))|(apply z0c;(refine z22 ?_))|(apply z0g;(refine z0a z16 ?_))))|(apply z08;(first|refine z0p ?_|apply z09))|(apply z05;(first|apply z06|apply z00)))
 all_goals try (exfalso;first|omega|(simp at *;done))
 all_goals refine z4h (raw:=.glob 0 τ.o0) 700 0 700 (z0i (z1p _ (0,700) _) (by simp)) ?_
 all_goals refine z4h (raw:=.glob 1 τ.o1) 701 0 701 (z0i (z1p _ (0,701) _) (by simp)) ?_
 all_goals exact z0n Tryz.func18 _ z19 ⟨rfl,z3n hX0 hX1⟩
theorem zsv {a:Au} (h:vAu a=0):AuW a:=by
 have hv:=zd1 h
 exact⟨hv.len,hv.arc,hv.pos⟩
theorem zhi {a:Au} (hv:AuW a) (hn:a.F.length≤256):zci a.F a.A:=by
 have hl:∀ l∈a.A,l.length≤1114112:=fun l hl=>zjq (hv.arc l hl).1 fun x hx=>by have:=(hv.arc l hl).2 x hx;omega
 have hs:=zm7 hl
 have h2:=hv.len
 have h3:a.A.length*1114112≤256*1114112:=Nat.mul_le_mul_right _ (by omega)
 exact⟨hv.len,fun l h=>⟨(hv.arc l h).1,by have:=hl l h;omega,(hv.arc l h).2⟩,by omega,hv.pos,by omega⟩
theorem y0w {n:Nat} (cl:List Int) (hl:cl.length=n) (q:Nat) (hq:q<n):stQ cl (cl.getD q 0)<n∧cl.getD (stQ cl (cl.getD q 0)) 0=cl.getD q 0:=by
 obtain⟨r,hr⟩:=z9l (cl:=cl) (k:=cl.getD q 0) (j:=cl.length) (s:=q) (by omega) rfl
 have h:=z6x hr
 rw[stQ,hr]
 exact⟨by simpa[hl] using h.1,h.2⟩
theorem zqa {a:Au} (h:AuW a) (hn:a.F.length≤256):∃ m,zoe a.F a.A 256=some m∧Nrm m∧AuW m∧m.F.length≤a.F.length∧∀ w,m.acc 0 w=a.acc 0 w:=by
 obtain⟨cl,hcl,m,hm,h1⟩:=zui h hn (st:=stQ) fun cl hl q hq=>y0w cl hl q hq
 refine⟨m,?_,h1⟩
 rw[zoe,hcl]
 exact hm
theorem zk8 {a:Au} (h:AuW a):∃ b,z7t a.F a.A=some b∧AuW b∧b.F.length≤a.F.length∧∀ w,b.acc 0 w=a.acc 0 w:=by
 obtain⟨b,hb,h1⟩:=zo5 h
 exact⟨b,hb,h1⟩
theorem zle {a:Au} (h:AuW a) (hn:a.F.length≤256):Nrm (zn5 a)∧AuW (zn5 a)∧(zn5 a).F.length≤a.F.length∧(∀ w,(zn5 a).acc 0 w=a.acc 0 w)∧zci ((z7t a.F a.A).getD ⟨[],[]⟩).F ((z7t a.F a.A).getD ⟨[],[]⟩).A:=by
 obtain⟨b,hb,b1,b2,b3⟩:=zk8 h
 obtain⟨m,hm,m1,m2,m3,m4⟩:=zqa b1 (by omega)
 have e:zn5 a=m:=by rw[zn5,hb,Option.getD_some,hm];rfl
 rw[e,hb,Option.getD_some]
 exact⟨m1,m2,by omega,fun w=>by rw[m4,b3],zhi b1 (by omega)⟩
theorem zq7:∀ {n:Int} {l:List Arc} {p:Option Arc},okA p l→(∀ x∈l,0≤x.1∧x.1≤x.2.1∧x.2.1≤1114111∧0≤x.2.2∧x.2.2<n)→zkc n p l=0
 | n,[],p,_,_=>by cases p <;> rfl
 | n,x::l,p,h,hx=>by
  have h1:=hx x (by simp)
  have hb:¬ zwp n x=true:=by
   simp only[zwp,zAu,zA3,not_or];omega
  have ih:=zq7 h.2.2.2 fun y hy=>hx y (by simp[hy])
  rw[zcp,zAy hb]
  cases p with
  | none=>exact ih
  | some y =>
   have h2:=h.2.2.1 y rfl
   have hb2:¬ zwv y x=true:=by
    simp only[zwv,zAu,zA7,zA3,not_or]
    refine⟨by omega,fun g=>h2.2 ⟨by omega,g.2.symm⟩⟩
   simp only
   rw[zAy hb2];exact ih
theorem zm0 {n:Int}:∀ {A:List (List Arc)},(∀ l∈A,zkc n none l=0)→zef n A=0
 | [],_=>rfl
 | l::A,h=>by
  rw[zef,zAy (by rw[h l (by simp)];simp)]
  exact zm0 fun m hm=>h m (by simp[hm])
theorem zit {a:Au} (h:AuW a) (hn:a.F.length≤256):vAu a=0:=by
 have:=h.pos
 have:=h.len
 rw[vAu,zAy (by omega),zAy (by omega)]
 exact zm0 fun l hl=>zq7 (h.arc l hl).1 (h.arc l hl).2
theorem y4o {x y:Operand} (r:Arc) (w:World) (own:Nat→Prop) (us vs:List Value) (hu:DR w own (.agg (z3m r)) (.agg us.toArray)) (hv:DR w own (.agg (z3m r)) (.agg vs.toArray)) :
 (do eqGuard .neq 38 x y (.agg us.toArray) (.agg vs.toArray);binOp .neq 38 (.agg us.toArray) (.agg vs.toArray):Sem Value).run Tryz.prog w=.ok (.bool false) w:=by
 have e1:=DR.lits (xs:=[.int .i32 r.1,.int .i32 r.2.1,.int .i64 r.2.2]) hu
 have e2:=DR.lits (xs:=[.int .i32 r.1,.int .i32 r.2.1,.int .i64 r.2.2]) hv
 subst e1 e2
 have hf:(Tryz.prog.fieldsOf 38).toList.map (fun f=>(f.name == "_",f.type,f.offset))=[(false,21,0),(false,21,1),(false,3,2)]:=by kernel_rfl
 have hu:Tryz.prog.underlying 38=some (.struct (Tryz.prog.fieldsOf 38)):=by kernel_rfl
 have hs:Tryz.prog.stoodInHeld 38=false:=by kernel_rfl
 have hg:Tryz.prog.eqGuardType Tryz.prog.depth 38=false:=by kernel_rfl
 have hint:Tryz.prog.underlying 21=some (.int .i32):=T21.int rfl
 have hint3:Tryz.prog.underlying 3=some (.int .i64):=T3.int rfl
 have ha3:∀ w,(isAgg 21).run Tryz.prog w=.ok false w:=fun w=>T21.isAgg w
 have ha4:∀ w,(isAgg 3).run Tryz.prog w=.ok false w:=fun w=>T3.isAgg w
 rw[Sem.run_bind,run_eqGuard_agg _ _ _ _ _ _ _ hg,Result.andThen_ok,run_neq_struct,run_equalIn_struct w 9999 38 _ _ hu hs]
 generalize (Tryz.prog.fieldsOf 38).toList=fs at hf
 obtain⟨f1,f2,f3,rfl⟩:∃ f1 f2 f3,fs=[f1,f2,f3]:=by
  have hl:=congrArg List.length hf
  simp only[zA4,zAk,List.length_nil] at hl
  match fs,hl with
  | [a,b,c],_=>exact⟨a,b,c,rfl⟩
 simp only[List.map_cons,List.map_nil,List.cons.injEq,Prod.mk.injEq,beq_eq_false_iff_ne,ne_eq,and_true] at hf
 obtain⟨⟨n1,t1,o1⟩,⟨n2,t2,o2⟩,n3,t3,o3⟩:=hf
 simp only[Op.eqFields,n1,n2,n3,ne_eq,not_false_eq_true,if_true,t1,t2,t3,o1,o2,o3,part,Sem.run_bind,ha3,ha4,Result.andThen_ok,Bool.false_eq_true,if_false]
 simp[run_equalIn_int _ _ _ _ _ _ _ hint,run_equalIn_int _ _ _ _ _ _ _ hint3]
theorem y1g (a:Au) (hf:zo9 a):z0y Tryz.prog 23 [.d (auD a),.d (auD a)] (B true):=by
 refine z1r fun H=>?_
 obtain⟨F,A⟩:=a
 obtain⟨f1,f2,f3⟩:=hf
 simp only at f1 f2 f3
 refine z0k Tryz.func23 (by kernel_rfl) rfl (by simp) ?_
 dsimp only[Tryz.f23]
 repeat' (first|(apply z07;(first|refine z0r ?_| (apply z0b;(refine z02 z1i rfl rfl ?_))|(apply z0e;(refine z02 z0q rfl rfl ?_))|(apply z11;(refine z02 (z1k rfl) rfl rfl ?_))|(apply z1s;(refine z0a z3y ?_))))|(apply z08;(first|refine z0p ?_|apply z09|refine z1v ?_| refine z6c rfl rfl (fun _=>?_) (fun _=>?_)))|(apply z05;(first|apply z06|apply z00|refine z1c ?_| apply z04|apply z01|refine z5o rfl (fun _=>?_) (fun _=>?_))))
 all_goals try (exfalso;first|omega|(simp at *;done))
 refine z1f ?_
 refine z0d (z25 (fun q:Nat=>⟨89,[(2,.ptr (0,2) 0),(3,.ptr (0,3) 0),(4,B false),(26,I .i64 F.length),(27,I .i64 (q:Nat))],[(2,.box [.d (zkk F),.d (.slice (A.map z71))]),(3,.box [.d (zkk F),.d (.slice (A.map z71))])],H⟩) (fun q=>q≤F.length) (fun q=>F.length-q) ?_ 0 (zAf _)) rfl rfl
 intro i hi ih
 by_cases hlt:i<F.length
 · obtain⟨b,hb⟩:∃ b,F[i]? =some b:=⟨_,zA0 hlt⟩
   have ih':=ih (i+1) (by omega) (by omega)
   cases b
   all_goals repeat' (first|(apply z07;(first|refine z0r ?_| (apply z0b;(refine z02 z1i rfl rfl ?_))|(apply z0e;(refine z02 z0q rfl rfl ?_))|(apply z0t;(refine z02 (z0u z0x) rfl rfl ?_))|(apply z11;(refine z02 (z1k rfl) rfl rfl ?_))))|(apply z08;(first|refine z0p ?_|apply z09))|(apply z05;(first|apply z06|apply z00|refine z0w ?_| apply z04|apply z01|apply z2b|apply z03|refine z0f (fun _=>?_) (fun _=>?_)| refine z0l ?_))|(apply z2c;(first|(apply z0v;refine z1h mix ?_)|refine z2e ?_| (apply z0j;(first|refine z0h z1i rfl rfl ?_| refine z0h z2r rfl rfl ?_))|(apply z0z;(refine z0h z0q rfl rfl ?_))|(apply z0o;(refine z0h (z1b (ys:=F.map boc) rfl (idx (g:=boc) hb)) rfl rfl ?_))|(apply z1m;(refine z0h (zib rfl) rfl rfl ?_)))))
   all_goals exact zD43
 · obtain rfl:i=F.length:=by omega
   clear ih
   repeat' (first|(apply z07;(first|refine z0r ?_| (apply z0b;(refine z02 z1i rfl rfl ?_))|(apply z0e;(refine z02 z0q rfl rfl ?_))|(apply z11;(refine z02 (z1k rfl) rfl rfl ?_))))|(apply z08;(first|refine z0p ?_|apply z09))|(apply z05;(first|apply z06|apply z00|apply z04|apply z01|apply z2b|refine z0f (fun _=>?_) (fun _=>?_)| refine z0l ?_))|(apply z2c;(first|refine z2e ?_| (apply z0j;(refine z0h z1i rfl rfl ?_))|(apply z0z;(refine z0h z0q rfl rfl ?_)))))
   all_goals try (exfalso;omega)
   refine z1f ?_
   refine z0d (z25 (fun q:Nat=>⟨89,[(2,.ptr (0,2) 0),(3,.ptr (0,3) 0),(4,B false),(44,I .i64 A.length),(45,I .i64 (q:Nat))],[(2,.box [.d (zkk F),.d (.slice (A.map z71))]),(3,.box [.d (zkk F),.d (.slice (A.map z71))])],H⟩) (fun q=>q≤A.length) (fun q=>A.length-q) ?_ 0 (zAf _)) rfl rfl
   intro j hj ih
   by_cases hjt:j<A.length
   · obtain⟨l,hl⟩:∃ l,A[j]? =some l:=⟨_,zA0 hjt⟩
     have hll:=f3 l (zA2 hl)
     have ih':=ih (j+1) (by omega) (by omega)
     repeat' (first|(apply z07;(first|refine z0r ?_| (apply z0b;(first|refine z02 z1i rfl rfl ?_| refine z02 z2r rfl rfl ?_))|(apply z0e;(refine z02 z0q rfl rfl ?_))|(apply z0m;(refine z02 (z1b (ys:=A.map z71) rfl (idx (g:=z71) hl)) rfl rfl ?_))|(apply z11;(refine z02 (z1k rfl) rfl rfl ?_))))|(apply z08;(first|refine z0p ?_|apply z09))|(apply z05;(first|apply z06|apply z00|apply z04|apply z01|apply z2b|refine z0f (fun _=>?_) (fun _=>?_)| refine z5o rfl (fun _=>?_) (fun _=>?_)|refine z0l ?_))|(apply z2c;(first|(apply z0v;refine z1h mix ?_)|refine z2e ?_| (apply z0j;(first|refine z0h z1i rfl rfl ?_| refine z0h z2r rfl rfl ?_))|(apply z0z;(refine z0h z0q rfl rfl ?_))|(apply z0o;(refine z0h (z1b (ys:=A.map z71) rfl (idx (g:=z71) hl)) rfl rfl ?_))|(apply z6u;(refine z0h (z1k rfl) rfl rfl ?_)))))
     all_goals try (exfalso;first|omega|(simp at *;done))
     refine z1f ?_
     refine z0d (z25 (fun q:Nat=>⟨89,[(2,.ptr (0,2) 0),(3,.ptr (0,3) 0),(4,B false),(6,I .i64 (j:Nat)),(44,I .i64 A.length),(45,I .i64 (j:Nat)),(66,I .i64 l.length),(67,I .i64 (q:Nat))],[(2,.box [.d (zkk F),.d (.slice (A.map z71))]),(3,.box [.d (zkk F),.d (.slice (A.map z71))])],H⟩) (fun q=>q≤l.length) (fun q=>l.length-q) ?_ 0 (zAf _)) rfl rfl
     intro k hk ihk
     by_cases hkt:k<l.length
     · obtain⟨x,hx⟩:∃ x,l[k]? =some x:=⟨_,zA0 hkt⟩
       have ihk':=ihk (k+1) (by omega) (by omega)
       repeat' (first|(apply z07;(first|refine z0r ?_| (apply z0t;(refine z02 (z0u z0x) rfl rfl ?_))))|(apply z08;(first|refine z0p ?_|apply z09))|(apply z05;(first|apply z06|apply z00|refine z0w ?_| apply z04|apply z01|apply z2b|apply z03|refine z0f (fun _=>?_) (fun _=>?_)| refine z0l ?_))|(apply z2c;(first|(apply z0v;refine z1h mix ?_)|refine z2e ?_| (apply z0j;(first|refine z0h z1i rfl rfl ?_| refine z0h z2r rfl rfl ?_| refine z0h z1z rfl rfl ?_))|(apply z0z;(refine z0h z0q rfl rfl ?_))|(apply z0o;(first|refine z0h (z1b (ys:=A.map z71) rfl (idx (g:=z71) hl)) rfl rfl ?_| refine z0h (z1b (ys:=l.map z3m) rfl (idx (g:=z3m) hx)) rfl rfl ?_))|(apply z1m;(refine z0h (y4f (op:=.neq) (tx:=38) (y4o x)) rfl rfl ?_)))))
       all_goals try (exfalso;first|omega|(simp at *;done))
       all_goals exact z0d ihk' rfl rfl
     · obtain rfl:k=l.length:=by omega
       clear ihk
       repeat' (first|(apply z07;(first|refine z0r ?_| (apply z0t;(refine z02 (z0u z0x) rfl rfl ?_))))|(apply z08;(first|refine z0p ?_|apply z09))|(apply z05;(first|apply z06|apply z00|apply z04|apply z01|apply z2b|apply z03|refine z0f (fun _=>?_) (fun _=>?_)| refine z0l ?_))|(apply z2c;(first|refine z2e ?_| (apply z0j;(refine z0h z1i rfl rfl ?_))|(apply z0z;(refine z0h z0q rfl rfl ?_)))))
       all_goals exact zD18
   · obtain rfl:j=A.length:=by omega
     clear ih
     repeat' (first|(apply z07;(refine z0r ?_))|(apply z08;(first|refine z0p ?_|apply z09))|(apply z05;(first|apply z06|apply z00|apply z04|apply z01|apply z2b|refine z0f (fun _=>?_) (fun _=>?_)| refine z0l ?_))|(apply z2c;(first|refine z2e ?_| (apply z0j;(refine z0h z1i rfl rfl ?_))|(apply z0z;(refine z0h z0q rfl rfl ?_)))))
     all_goals try (exfalso;omega)
     all_goals exact z0n Tryz.func23 _ z19 ⟨rfl,rfl⟩
end Go.Proofs.YthdfkabdoidjfaaGreatDoor
