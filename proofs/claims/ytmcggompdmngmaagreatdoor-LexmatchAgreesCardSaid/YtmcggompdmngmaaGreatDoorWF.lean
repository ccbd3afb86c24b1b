/- A part of the proof: L33 to L35. -/
import Derived.Test.YtmcggompdmngmaaGreatDoorWc
import Derived.Test.YtmcggompdmngmaaGreatDoorWe
import Derived.Test.YtmcggompdmngmaaGreatDoorWD
import Derived.Test.YtmcggompdmngmaaGreatDoorWd
import Derived.Test.YtmcggompdmngmaaGreatDoorWo
import Derived.Test.YtmcggompdmngmaaGreatDoorWC
import Derived.Test.YtmcggompdmngmaaGreatDoorWw
import Derived.Test.YtmcggompdmngmaaGreatDoorWz
set_option linter.all false
namespace Go.Proofs.YtmcggompdmngmaaGreatDoor
open Go.Ab Go.Rx Go.Lx Go.Ax
set_option maxHeartbeats 20000000
set_option maxRecDepth 100000
attribute [local irreducible] Run Ops Op1 z14 Val Tr z0d z0w NF Rel z1z z27 z5x
structure OkI (l:List Int):Prop where
 len:l.length≤4096
 asc:y4z l
 rng:∀ x∈l,0≤x∧x≤2147483647
theorem zug (l:List Int) (h:OkI l):z0d Tryz.prog 102 [.d (inD l)] (I .i64 0):=by
 refine z0y fun H=>?_
 refine z08 Tryz.func102 (by kernel_rfl) rfl (by simp) ?_
 dsimp only[Tryz.f102]
 have hl:=h.len
 repeat' (first|refine z05 ?_|refine fk (fun _=>?_) (fun _=>?_))
 all_goals try (exfalso;omega)
 refine z0l ?_
 refine z01 (z0x (fun q:Nat=>⟨35,[(0,.d (inD l)),(8,.d (inD l)),(9,I .i64 l.length),(10,I .i64 (q:Nat))],[],H⟩) (fun q=>q≤l.length) (fun q=>l.length-q) ?_ 0 (zAf _)) rfl rfl
 rintro i i1 ih
 by_cases hlt:i<l.length
 · obtain⟨k,hk⟩:∃ r,l[i]? =some r:=⟨_,zA0 hlt⟩
   obtain⟨r1,r2⟩:=h.rng k (zA2 hk)
   have ih':=ih (i+1) (by omega) (by omega)
   clear ih
   cases i with
   | zero =>
    repeat' (first|(apply z09;(refine z0c (z1n (ys:=l.map ic) rfl (idx hk)) rfl rfl ?_))|refine z05 ?_|refine fk (fun _=>?_) (fun _=>?_))
    all_goals exact zD12
   | succ j =>
    obtain⟨pr,j1⟩:∃ r,l[j]? =some r:=⟨_,zA0 (by omega)⟩
    have j4:l[(((j+1:Nat):Int)-1).toNat]? =some pr:=by rw[show (((j+1:Nat):Int)-1).toNat=j by omega];exact j1
    have hlt2:pr<k:=by
     have:=zcr h.asc (i:=j) (j:=j+1) (by omega) hlt
     rw[List.getD,List.getD,hk,j1] at this;exact this
    repeat' (first|(apply z09;(first|refine z0c (z1n (ys:=l.map ic) rfl (idx hk)) rfl rfl ?_| refine z0c (z1n (ys:=l.map ic) rfl (zhv j4)) rfl rfl ?_))|refine z05 ?_|refine fk (fun _=>?_) (fun _=>?_))
    all_goals exact zD12
 · obtain rfl:i=l.length:=by omega
   clear ih
   repeat' (first|refine z05 ?_|refine fk (fun _=>?_) (fun _=>?_))
   all_goals try (exfalso;omega)
   all_goals exact z00 Tryz.func102 _ z11 ⟨rfl,rfl⟩
abbrev ilc (l:List Int):List D:=[inD l]
theorem zox (a b:List Int) (ha:OkI a) (hb:OkI b):z0d Tryz.prog 75 [.d (.slice ([a,b].map ilc))] (I .i64 0):=by
 refine z0y fun H=>?_
 obtain⟨ls,hls⟩:∃ ls,[a,b]=ls:=⟨_,rfl⟩
 have hl:ls.length=2:=by rw[← hls];rfl
 have hc:∀ l∈ls,z0d Tryz.prog 102 [.d (inD l)] (I .i64 0):=fun l h=>by
  rw[← hls] at h
  rcases zAc.1 h with rfl|h
  · exact zug _ ha
  · rcases zAc.1 h with rfl|h
    · exact zug _ hb
    · cases h
 rw[hls]
 clear hls
 refine z08 Tryz.func75 (by kernel_rfl) rfl (by simp) ?_
 dsimp only[Tryz.f75]
 repeat' (first|refine z05 ?_|fail)
 all_goals try (exfalso;omega)
 refine z0l ?_
 refine z01 (z0x (fun q:Nat=>⟨18,[(6,.d (.slice (ls.map ilc))),(7,I .i64 ls.length),(8,I .i64 (q:Nat))],[],H⟩) (fun q=>q≤ls.length) (fun q=>ls.length-q) ?_ 0 (zAf _)) rfl rfl
 rintro i i1 ih
 by_cases hlt:i<ls.length
 · obtain⟨k,hk⟩:∃ r,ls[i]? =some r:=⟨_,zA0 hlt⟩
   have hck:=hc k (zA2 hk)
   have ih':=ih (i+1) (by omega) (by omega)
   clear ih
   repeat' (first|(apply z09;(refine z0c (z1n (ys:=ls.map ilc) rfl (idx hk)) rfl rfl ?_))|(apply z03;(refine z1i hck ?_))|refine z05 ?_|refine fk (fun _=>?_) (fun _=>?_))
   all_goals exact zD12
 · obtain rfl:i=ls.length:=by omega
   clear ih
   repeat' (first|refine z05 ?_|refine fk (fun _=>?_) (fun _=>?_))
   all_goals try (exfalso;omega)
   all_goals exact z00 Tryz.func75 _ z11 ⟨rfl,rfl⟩
theorem y77 (l:List Int) (x:Int) (lo i:Nat) (hi:lo+i<l.length) (hl:l.length≤1000000):z0w Tryz.prog 143 [.d (.lit (.int .i64 (i:Nat))),.ptr (1,2) 0,.ptr (1,6) 0,.ptr (1,3) 0] [((1,2),.box [.d (inD l)]),((1,6),.box [I .i64 (lo:Nat)]),((1,3),.box [I .i64 x])] [] (B (decide (x≤l.getD (lo+i) 0))):=by
 refine z10 fun H hH=>?_
 have hA:=hH ((1,2),.box [.d (inD l)]) (by simp)
 have hL:=hH ((1,6),.box [I .i64 (lo:Nat)]) (by simp)
 have hB:=hH ((1,3),.box [I .i64 x]) (by simp)
 obtain⟨k,hk⟩:∃ r,l[lo+i]? =some r:=⟨_,zA0 hi⟩
 have hw':l[(((lo:Nat):Int)+((i:Nat):Int)).toNat]? =some k:=by rw[show (((lo:Nat):Int)+((i:Nat):Int)).toNat=lo+i by omega];exact hk
 have e:l.getD (lo+i) 0=k:=by rw[List.getD,hk];rfl
 rw[e]
 refine z08 Tryz.func143 (by kernel_rfl) rfl (by simp) ?_
 dsimp only[Tryz.f143]
 repeat' (first|(apply z0e;(first|refine z4c hL ?_| refine z4c hB ?_| refine z4c hA ?_))|(apply z06;(refine z0k (z1n (ys:=l.map ic) rfl (zhv hw')) rfl rfl ?_))|refine z05 ?_|fail)
 all_goals try (exfalso;omega)
 all_goals ((repeat rw[z0a]);first|exact z00 Tryz.func143 _ (z04 rfl rfl rfl rfl rfl rfl rfl) ⟨rfl,rfl⟩|exact z00 Tryz.func143 _ z0z ⟨rfl,rfl⟩|exact z00 Tryz.func143 _ z11 ⟨rfl,rfl⟩|exact z00 Tryz.func143 _ z1h ⟨rfl,rfl⟩)
theorem zx5 (l:List Int) (h:OkI l) (x:Int):z0d Tryz.prog 103 [.d (inD l),I .i64 x] (I .i64 (z5n l x:Nat)):=by
 have hl:=h.len
 obtain⟨g1,g2,g3⟩:=zbx l x
 have hs2:∀ lo n:Nat,lo+n≤l.length→lo≤z5n l x→z5n l x≤lo+n→z0w Tryz.prog 67 [I .i64 (n:Nat),.fn (.func 143) [] [.ptr (0,2) 0,.ptr (0,6) 0,.ptr (0,3) 0]] [((0,2),.box [.d (inD l)]),((0,6),.box [I .i64 (lo:Nat)]),((0,3),.box [I .i64 x])] [] (I .i64 ((z5n l x-lo:Nat):Int)):=fun lo n h1 h2 h3=>by
  refine z10 fun H hH=>?_
  have hA:=hH ((0,2),.box [.d (inD l)]) (by simp)
  have hL:=hH ((0,6),.box [I .i64 (lo:Nat)]) (by simp)
  have hB:=hH ((0,3),.box [I .i64 x]) (by simp)
  have hfr:zhw (fun k=>decide (x≤l.getD (lo+k) 0)) n=z5n l x-lo:=zkp (by omega) (fun i hi=>by
   have:=g2 (lo+i) (by omega)
   simp only[zA5];omega) (fun hh=>by
   have:=g3 (by omega)
   rw[show lo+(z5n l x-lo)=z5n l x by omega]
   simpa using this)
  rw[← hfr]
  refine zgh n (by omega) 143 [.ptr (0,2) 0,.ptr (0,6) 0,.ptr (0,3) 0] [((1,2),.box [.d (inD l)]),((1,6),.box [I .i64 (lo:Nat)]),((1,3),.box [I .i64 x])] (fun k=>decide (x≤l.getD (lo+k) 0)) (fun i j hij hj hi=>?_) H (fun i hi=>y77 l x lo i (by omega) (by omega)) (fun n tm hp=>by simp[BkE,z3m,push,hA,hL,hB])
  simp only[zA3] at hi ⊢
  rcases Nat.lt_or_ge i j with k|k
  · have:=zcr h.asc (i:=lo+i) (j:=lo+j) (by omega) (by omega);omega
  · rw[show j=i by omega];exact hi
 refine z0y fun H=>?_
 refine z08 Tryz.func103 (by kernel_rfl) rfl (by simp) ?_
 dsimp only[Tryz.f103]
 repeat' (first|(apply z2n;(refine z0j z5k ?_))|refine z05 ?_|fail)
 all_goals try (exfalso;omega)
 refine z0l ?_
 refine z01 (z0x (fun e:Nat=>⟨36,[(2,.ptr (0,2) 0),(3,.ptr (0,3) 0),(5,I .i64 (e:Nat))],[(2,.box [.d (inD l)]),(3,.box [I .i64 x])],H⟩) (fun e=>1≤e∧e≤2*l.length+2∧e / 2≤z5n l x∧e / 2≤l.length) (fun e=>2*l.length+3-e) ?_ 1 ⟨zAj _,by omega,by omega,by omega⟩) rfl rfl
 rintro e ⟨i1,i2,i3,i4⟩ ih
 have hdiv:((e:Nat):Int) / 2=((e / 2:Nat):Int):=by omega
 by_cases hc:e≤l.length
 · obtain⟨k,hk⟩:∃ r,l[e-1]? =some r:=⟨_,zA0 (by omega)⟩
   have hk':l[(((e:Nat):Int)-1).toNat]? =some k:=by rw[show (((e:Nat):Int)-1).toNat=e-1 by omega];exact hk
   have hkd:l.getD (e-1) 0=k:=by rw[List.getD,hk];rfl
   by_cases hx:k<x
   · have hge:e≤z5n l x:=by
      rcases Nat.lt_or_ge (z5n l x) e with q|q
      · have h5:=g3 (by omega)
        have:l.getD (z5n l x) 0≤l.getD (e-1) 0:=by
         rcases Nat.lt_or_ge (z5n l x) (e-1) with r|r
         · have:=zcr h.asc r (by omega);omega
         · rw[show z5n l x=e-1 by omega];exact Int.le_refl _
        omega
      · exact q
     have ih':=ih (e*2) ⟨by omega,by omega,by omega,by omega⟩ (by omega)
     rw[show ((e*2:Nat):Int)=(e:Int)*2 by push_cast;rfl] at ih'
     clear ih hs2
     repeat' (first|(apply z06;(refine z0k (z1n (ys:=l.map ic) rfl (zhv hk')) rfl rfl ?_))|refine z05 ?_|refine fk (fun _=>?_) (fun _=>?_)|(refine z16 (fun hg=>?_) (fun hg=>?_)<;> simp only[hg] <;> (try simp only[zA3,zA5,zA6,zA8] at hg)))
     all_goals exact zD12
   · have hle:z5n l x≤e-1:=by
      rcases Nat.lt_or_ge (e-1) (z5n l x) with q|q
      · have:=g2 (e-1) q;omega
      · exact q
     exact zD5
 · have hle:z5n l x≤l.length:=g1
   exact zD5
theorem OkI.drop {l:List Int} (h:OkI l) (n:Nat):OkI (l.drop n) :=
 ⟨by rw[List.length_drop];have:=h.len;omega,zyb h.asc n,fun x hx=>h.rng x (List.mem_of_mem_drop hx)⟩
theorem y47 (a b:List Int) (ha:OkI a) (hb:OkI b):z0d Tryz.prog 76 [.d (inD a),.d (inD b)] (.tup [.d (inD (a.filter (· ∈b))),.d (inD (a.filter (· ∉b)))]):=by
 refine z0y fun H=>?_
 refine z08 Tryz.func76 (by kernel_rfl) rfl (by simp) ?_
 dsimp only[Tryz.f76]
 have hal:=ha.len
 repeat' (first|refine z05 ?_|fail)
 all_goals try (exfalso;omega)
 refine z1t 4 1000 3 1 rfl rfl rfl ?_
 refine z1t 5 1001 3 1 rfl rfl rfl ?_
 refine z0l ?_
 refine z01 (z0x (fun z:Nat × Nat × List Int × List Int=>⟨40,[(1,.d (inD (b.drop z.2.1))),(4,.ref (0,1000)),(5,.ref (0,1001)),(8,.d (inD a)),(9,I .i64 a.length),(10,I .i64 (z.1:Nat))],[(1000,.row 3 1 (z.2.2.1.map ic)),(1001,.row 3 1 (z.2.2.2.map ic))],H⟩)
  (fun z=>z.1≤a.length∧(∀ x∈a.drop z.1,x∈b↔x∈b.drop z.2.1)∧z.2.2.1=(a.take z.1).filter (· ∈b)∧z.2.2.2=(a.take z.1).filter (· ∉b)) (fun z=>a.length-z.1) ?_ (0,0,[],[]) ⟨zAf _,fun x _=>Iff.rfl,rfl,rfl⟩) rfl rfl
 rintro⟨i,n,p,q⟩ ⟨i1,i2,i3,i4⟩ ih
 simp only at i1 i2 i3 i4 ih ⊢
 have hpl:p.length≤4096:=by rw[i3];have:=List.length_filter_le (fun x=>decide (x∈b)) (a.take i);rw[zAm] at this;omega
 have hql:q.length≤4096:=by rw[i4];have:=List.length_filter_le (fun x=>decide (x∉b)) (a.take i);rw[zAm] at this;omega
 by_cases hlt:i<a.length
 · obtain⟨x,hx⟩:∃ r,a[i]? =some r:=⟨_,zA0 hlt⟩
   have hbd:=hb.drop n
   have hgs:=zx5 (b.drop n) hbd x
   have hgl:=(zbx (b.drop n) x).1
   have hgm:=y1q hbd.asc x
   have hdm:=fun y (hy:x≤y)=>zv9 (l:=b.drop n) (x:=x) hy
   have hxin:=i2 x (by rw[drop_cons hx];exact List.mem_cons_self ..)
   have htk:∀ f:Int→Bool,(a.take (i+1)).filter f=(a.take i).filter f++if f x=true then [x] else []:=fun f=>by
    rw[List.take_add_one,hx,List.filter_append]
    by_cases g:f x=true <;> simp[g]
   have i2':∀ y∈a.drop (i+1),y∈b↔y∈b.drop (n+z5n (b.drop n) x):=fun y hy=>by
    have h1:y∈a.drop i:=by rw[drop_cons hx];exact List.mem_cons_of_mem _ hy
    rw[i2 y h1,← List.drop_drop]
    refine hdm y ?_
    obtain⟨k,hk⟩:=zAw hy
    rw[List.getElem?_drop] at hk
    have hkl:=(zA1.1 hk).1
    have:=zcr ha.asc (i:=i) (j:=i+1+k) (by omega) hkl
    rw[List.getD,List.getD,hx,hk] at this
    simp at this;omega
   have hdl:(b.drop n).length≤4096:=hbd.len
   rw[← hxin] at hgm
   have ih':=fun p2 q2 h=>ih (i+1,n+z5n (b.drop n) x,p2,q2) ⟨by simp only;omega,i2',h⟩ (by simp only;omega)
   simp only[htk] at ih'
   rw[← i3,← i4] at ih'
   simp only[← List.drop_drop] at ih'
   clear ih i2 i2' htk hdm hxin
   generalize hd:b.drop n=d at *
   generalize hg:z5n d x=g at *
   have hsl:d.drop g=d.drop ((g:Nat):Int).toNat:=by rw[zA9]
   have hdl2:(d.drop ((g:Nat):Int).toNat).length=d.length-g:=by rw[zA9,List.length_drop]
   have hdl3:((d.drop ((g:Nat):Int).toNat).map ic).length=d.length-g:=by rw[zA4,hdl2]
   rw[hsl] at ih'
   by_cases hm:x∈b
   · have hgm':=hgm.1 hm
     have hdx:(d.drop ((g:Nat):Int).toNat)[(0:Int).toNat]? =some x:=by
      rw[show ((0:Int)).toNat=0 from rfl,zA9,List.getElem?_drop,Nat.add_zero,zA0 hgm'.1]
      have:=hgm'.2
      rw[List.getD,zA0 hgm'.1] at this
      exact congrArg some this
     have ih2:=ih' (p++[x]) q ⟨by simp[hm],by simp[hm]⟩
     clear ih'
     repeat' (first|(apply z09;(first|refine z0c (z1n (ys:=a.map ic) rfl (idx hx)) rfl rfl ?_| refine z0c (z1n (ys:=(d.drop ((g:Nat):Int).toNat).map ic) rfl (zhv hdx)) rfl rfl ?_))|(apply zam;(refine z0c (z7k (q:=d) (g:=ic) rfl (by omega) (by omega) (fun _=>rfl)) rfl rfl ?_))|(apply z1q;(refine z47 (g:=ic) (q:=p) x rfl ?_))|(apply z03;(refine z1i hgs ?_))|refine z05 ?_|refine fk (fun _=>?_) (fun _=>?_))
     all_goals try (exfalso;omega)
     all_goals refine z2i 32 1000 ?_
     all_goals exact z01 ih2 rfl rfl
   · have ih2:=ih' p (q++[x]) ⟨by simp[hm],by simp[hm]⟩
     clear ih'
     by_cases hgd:g<d.length
     · obtain⟨y,hy⟩:∃ y,d[g]? =some y:=⟨_,zA0 hgd⟩
       have hdx:(d.drop ((g:Nat):Int).toNat)[(0:Int).toNat]? =some y:=by
        rw[show ((0:Int)).toNat=0 from rfl,zA9,List.getElem?_drop,Nat.add_zero,hy]
       have hne:¬ y=x:=fun e=>hm (hgm.2 ⟨hgd,by rw[List.getD,hy];exact e⟩)
       repeat' (first|(apply z09;(first|refine z0c (z1n (ys:=a.map ic) rfl (idx hx)) rfl rfl ?_| refine z0c (z1n (ys:=(d.drop ((g:Nat):Int).toNat).map ic) rfl (zhv hdx)) rfl rfl ?_))|(apply zam;(refine z0c (z7k (q:=d) (g:=ic) rfl (by omega) (by omega) (fun _=>rfl)) rfl rfl ?_))|(apply z1q;(refine z47 (g:=ic) (q:=q) x rfl ?_))|(apply z03;(refine z1i hgs ?_))|refine z05 ?_|refine fk (fun _=>?_) (fun _=>?_))
       all_goals exact zD159
     · repeat' (first|(apply z09;(refine z0c (z1n (ys:=a.map ic) rfl (idx hx)) rfl rfl ?_))|(apply zam;(refine z0c (z7k (q:=d) (g:=ic) rfl (by omega) (by omega) (fun _=>rfl)) rfl rfl ?_))|(apply z1q;(refine z47 (g:=ic) (q:=q) x rfl ?_))|(apply z03;(refine z1i hgs ?_))|refine z05 ?_|refine fk (fun _=>?_) (fun _=>?_))
       all_goals exact zD159
 · obtain rfl:i=a.length:=by omega
   rw[List.take_length] at i3 i4
   rw[← i3,← i4]
   clear ih
   refine z13 1000 rfl ?_
   refine z13 1001 rfl ?_
   repeat' (first|refine z05 ?_|refine fk (fun _=>?_) (fun _=>?_))
   all_goals try (exfalso;omega)
   all_goals exact z00 Tryz.func76 _ z0z ⟨rfl,rfl⟩
theorem zo8 (a b:List Int) (ha:OkI a) (hb:OkI b):z0d Tryz.prog 34 [.d (inD a),.d (inD b)] (.tup [.d (inD (a.filter (· ∉b))),I .i64 0]):=by
 refine z0y fun H=>?_
 have h1:=zox a b ha hb
 have h2:=y47 a b ha hb
 generalize a.filter (· ∈b)=p at *
 generalize a.filter (· ∉b)=q at *
 refine z08 Tryz.func34 (by kernel_rfl) rfl (by simp) ?_
 dsimp only[Tryz.f34]
 repeat' (first|(apply z03;(first|refine z1i h1 ?_| refine z1i h2 ?_))|refine z05 ?_|fail)
 all_goals try (exfalso;omega)
 all_goals exact z00 Tryz.func34 _ z0z ⟨rfl,rfl⟩
theorem y25 (e:Rx) (hf:fit e):z0d Tryz.prog 32 [.d (Drx e)] (B (hvy e)):=by
 refine z0y fun H=>?_
 have hval:=zd6 e hf
 rw[hvy]
 by_cases h0:val e=0
 · have hp:=y2f e hf h0
   have hn:=zu6 e hf (by have:=y72 h0;omega)
   rw[h0] at hval ⊢
   generalize ps 1048576 e=p at *
   generalize nst e=n at *
   clear h0
   obtain⟨op,mn,mx,rs,ks⟩:=e
   rw[z2h] at hval hp hn ⊢
   refine z08 Tryz.func32 (by kernel_rfl) rfl (by simp) ?_
   dsimp only[Tryz.f32]
   by_cases h1:14<p
   · rw[zAi h1]
     repeat' (first|(apply z03;(first|refine z1i hval ?_| refine z1i hp ?_| refine z1i hn ?_))|(apply z2n;(refine z0j z5k ?_))|refine z05 ?_|refine fk (fun _=>?_) (fun _=>?_))
     all_goals try (exfalso;omega)
     all_goals exact z00 Tryz.func32 _ z11 ⟨rfl,rfl⟩
   · rw[zAo h1]
     repeat' (first|(apply z03;(first|refine z1i hval ?_| refine z1i hp ?_| refine z1i hn ?_))|(apply z2n;(refine z0j z5k ?_))|refine z05 ?_|refine fk (fun _=>?_) (fun _=>?_))
     all_goals try (exfalso;omega)
     all_goals exact z00 Tryz.func32 _ z11 ⟨congrArg (fun b=>RV.v (B b)) (by simp),rfl⟩
 · rw[zAo h0,Bool.false_and]
   generalize val e=va at *
   obtain⟨op,mn,mx,rs,ks⟩:=e
   rw[z2h] at hval ⊢
   refine z08 Tryz.func32 (by kernel_rfl) rfl (by simp) ?_
   dsimp only[Tryz.f32]
   repeat' (first|(apply z03;(refine z1i hval ?_))|(apply z2n;(refine z0j z5k ?_))|refine z05 ?_|refine fk (fun _=>?_) (fun _=>?_))
   all_goals try (exfalso;omega)
   all_goals exact z00 Tryz.func32 _ z11 ⟨congrArg (fun b=>RV.v (B b)) (by first|(simp;done)|(simp;omega)),rfl⟩
theorem zsf (s:ByteArray):vld (Go.Rx.z3l s)=true:=by
 rw[vld,Go.Rx.z3l,List.all_map,List.all_eq_true]
 intro u hu
 have:=z36.1 (zcn s _ 0 (zAj _) u hu)
 simp only[Function.comp,zA7,zA3]
 omega
theorem zqt {e:Rx} (h0:val e=0) {a:Au} (ha:zd7 e=some a) {s:ByteArray} (hs:zbo s=true):a.acc 0 (Go.Rx.z3l s)=mtS (fun c=>[c]) e s:=by
 obtain⟨w,n,h⟩:=z9l h0 ha
 rw[h,zsf,mtS,y2s,zAi h0,hs];simp
theorem zpq (f:Nat→Bool) {n:Nat} (hn:n≤4096):OkI (z61 f n) :=
 ⟨by have:=zl7 f n;omega,zr6 f n,fun x hx=>by
   obtain⟨i,hi,rfl⟩:=List.mem_map.1 hx
   have:=(zfz.1 hi).1
   omega⟩
theorem y2m {f g:Nat→Bool} {n:Nat} (h:∀ i,i<n→f i=true→g i=true):(z61 f n).filter (· ∉z61 g n)=[]:=by
 rw[List.filter_eq_nil_iff]
 intro x hx
 obtain⟨i,hi,rfl⟩:=List.mem_map.1 hx
 obtain⟨h1,h2⟩:=zfz.1 hi
 rw[zA3]
 intro hno
 refine hno ?_
 exact List.mem_map.2 ⟨i,zfz.2 ⟨h1,h i h1 h2⟩,rfl⟩
theorem y26 {f:Nat→Bool} {n i:Nat} (hi:i<n) (hf:f i=true):(z61 f n)[(z61 f i).length]? =some (i:Int):=by
 have h:∀ k,i+1+k≤n→∃ r,z61 f (i+1+k)=z61 f i++[(i:Int)]++r:=fun k=>by
  induction k with
  | zero =>
   intro _
   exact⟨[],by rw[z61,Nat.add_zero,z6z,zAz hf,List.map_append];simp[z61]⟩
  | succ k ih =>
   intro hk
   obtain⟨r,e⟩:=ih (by omega)
   rw[z61,← Nat.add_assoc,z6z,List.map_append]
   rw[z61] at e
   exact⟨r++(if f (i+1+k)=true then [i+1+k] else []).map fun (i:Nat)=>(i:Int),by rw[e];simp⟩
 obtain⟨r,e⟩:=h (n-(i+1)) (by omega)
 rw[show i+1+(n-(i+1))=n by omega] at e
 rw[e];simp
theorem zts (f:Nat→Bool) (n:Nat):(z61 f (n+1)).length=(z61 f n).length+if f n=true then 1 else 0:=by
 rw[z61,z61,z6z]
 split <;> simp
theorem zp4 {f g:Nat→Bool} {n:Nat} (h:∀ i,i<n→f i=g i):z61 f n=z61 g n:=by rw[z61,z61,zps h]
end Go.Proofs.YtmcggompdmngmaaGreatDoor
