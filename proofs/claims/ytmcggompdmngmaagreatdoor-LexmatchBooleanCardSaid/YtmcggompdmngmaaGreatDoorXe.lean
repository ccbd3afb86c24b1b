/- A part. -/
import Derived.Test.YtmcggompdmngmaaGreatDoorXd
import Derived.Test.YtmcggompdmngmaaGreatDoorXv
set_option linter.all false
open Go.Proofs.Tryz
namespace Go.Proofs.YtmcggompdmngmaaGreatDoor
open Go.Ab Go.Rx Go.Lx Go.Ax
set_option maxHeartbeats 20000000
set_option maxRecDepth 100000
attribute [local irreducible] Run Ops Op1 z0y Val Tr z0a z0u NF Rel z27 z29 z5w
structure zfn(v:List ByteArray):Prop where
 len:v.length≤4096
 few:(wds v).length≤1024
 size:∀w∈v,w.size≤120
 vld:∀w∈v,zcs w=true
abbrev mpQ(v:List ByteArray):Blk:=.mp ((zgk v).map fun p=>(Value.string p.1,p.2))
theorem zvc:∀(l:List U) (i:Nat),(unF i l).all okU=l.all zuk
 | [],i=>rfl
 | u::l,i=>by
  rw[unF,List.all_cons,List.all_cons,zvc l]
  congr 1
  simp only[okU,zuk]
  congr 1
  rw[decide_eq_decide];omega
theorem y7d:prog.underlying 145=some (.map 9 3):=by kernel_rfl
theorem ybz:prog.underlying 9=some .string:=by kernel_rfl
theorem z3:(prog.info? 3).bind (·.zero)=some (Value.int .i64 0):=by kernel_rfl
theorem zmy(v:List ByteArray)(h:zfn v)(H:Hf):Ab.Spec prog 43 [.d (.slice (v.map stc))] H (fun r H'=>r=.newT (lexB (wds v) ((wds v).map (z5v v)) (zko (wds v))) [.d (.slice ((v.map fun x=>loS (wds v) x).map nmc)),.d (.lit (.int .i64 0))]∧H'=H):=by
 obtain⟨h1,h2,h3,h4⟩:=h
 have hwl:=zvx v
 refine z05 func43 (by kernel_rfl) rfl (by simp) ?_
 dsimp only[f43]
 repeat' first|refine z04 ?_|refine fk (fun _=>?_) (fun _=>?_)|(apply z0r;refine zbd (by decide) rfl ?_)
 all_goals try omega
 refine z1d 18 6001 ?_
 refine z0f ?_
 refine z00 (z0s (fun i:Nat=>⟨110,[(0,.d (.slice (v.map stc))),(5,.ref (0,6001)),(19,.d (.slice (v.map stc))),(20,I .i64 v.length),(21,I .i64 (i:Nat))],[(6001,mpQ (v.take i))],H⟩) (fun i=>i≤v.length) (fun i=>v.length-i) ?_ 0 (zAf _)) rfl rfl
 intro i i1 ih
 by_cases hlt:i<v.length
 ·obtain⟨x,hx⟩:∃x,v[i]? =some x:=⟨_,zA0 hlt⟩
  have hxm:=zA2 hx
  have x1:=h3 x hxm
  have hva:=ztk x (by omega)
  have hq:(unF 0 (rst x 0)).all okU=true:=by rw[zvc];exact h4 x hxm
  rw[hq]at hva
  have ih':=ih (i+1) (by omega) (by omega)
  have hcl:=y1q (v.take i) x
  have hcl2:z5v (v.take i) x≤4096:=by rw[zAm]at hcl;omega
  have hput:=zwy (v.take i) x
  rw[show v.take i++[x]=v.take (i+1) by rw[List.take_add_one,hx];rfl]at hput
  have hget:=zpi (v.take i) x
  rw[show mpQ (v.take (i+1))=.mp ((z9h (zgk (v.take i)) x (.lit (.int .i64 ((z5v (v.take i) x:Nat)+1)))).map fun p=>(Value.string p.1,p.2)) by rw[hput]]at ih'
  repeat' first|(apply z0r;first|refine z09 (y92 (q:=zgk (v.take i)) (a:=x) (g:=fun x:ByteArray=>Value.string x) y7d ybz zom (z2d z3) rfl rfl rfl rfl hget (by decide)) ?_|refine yaf (q:=zgk (v.take i)) (a:=x) (v:=.lit (.int .i64 ((z5v (v.take i) x:Nat)+1))) (g:=fun x:ByteArray=>Value.string x) y7d ybz zom rfl rfl rfl rfl rfl ?_)|(apply z01;refine z07 (z11 (ys:=v.map stc) rfl (idx hx)) rfl rfl ?_)|(apply z06;refine z1o hva ?_)|refine z04 ?_|refine fk (fun _=>?_) fun _=>?_
  all_goals exact zD8
 ·obtain rfl:i=v.length:=by omega
  rw[List.take_length]
  clear ih
  have hlen:((zgk v).map fun p=>(Value.string p.1,p.2)).length=(wds v).length:=by rw[zgc,hwl]
  have hlit:∀x∈(zgk v).map fun p=>(Value.string p.1,p.2),∃u,x.2=D.lit u:=fun x hx=>by
   obtain⟨p,hp,rfl⟩:=List.mem_map.1 hx
   obtain⟨w,_,rfl⟩:=List.mem_map.1 hp
   exact⟨_,rfl⟩
  repeat' first|(apply z0r;first|refine z09 (y32 (es:=(zgk v).map fun p=>(Value.string p.1,p.2)) y7d rfl rfl (by decide)) ?_|(refine y7t 6001 hlit rfl (fun g cur clock hfit=>?_);refine y0e y7d rfl rfl rfl (by decide) ?_))|(apply z1n;refine z09 z3s ?_)|refine z04 ?_|refine fk (fun _=>?_) fun _=>?_
  all_goals try omega
  have hkeyc:∀e∈cur,(∃s,e.key=.string s)∧e.val.oneCell'=true:=fun e he=>by
   obtain⟨m1,m2⟩:=hfit.mem he
   obtain⟨p,_,hp⟩:=List.mem_map.1 m1
   exact⟨⟨p.1,(congrArg Prod.fst hp).symm⟩,m2⟩
  have hkin:∀e∈cur,∀s,e.key=.string s→s∈v:=fun e he s hs=>by
   obtain⟨m1,_⟩:=hfit.mem he
   obtain⟨p,hp1,hp⟩:=List.mem_map.1 m1
   obtain⟨w,hw,rfl⟩:=List.mem_map.1 hp1
   have:Value.string w=e.key:=congrArg Prod.fst hp
   rw[hs]at this
   simp at this;subst this
   exact(zcc v w).1 hw
  have hkall:∀s∈v,∃e∈cur,e.key=.string s:=fun s hs=>by
   have:(Value.string s,zwi v s)∈(zgk v).map fun p=>(Value.string p.1,p.2):=List.mem_map.2 ⟨(s,zwi v s),List.mem_map.2 ⟨s,(zcc v s).2 hs,rfl⟩,rfl⟩
   exact hfit.has this
  have hkey1:∀e∈cur,∀e'∈cur,e.key=e'.key→e=e':=fun e he e' he' hee=>by
   obtain⟨j,hj⟩:=zAw he
   obtain⟨j',hj'⟩:=zAw he'
   have hjl:=(zA1.1 hj).1
   have hjl':=(zA1.1 hj').1
   obtain⟨p,hp⟩:∃p,(zm3 v)[j]? =some p:=⟨_,zA0 (by have:=hfit.len;rw[zgc]at this;omega)⟩
   obtain⟨p',hp'⟩:∃p,(zm3 v)[j']? =some p:=⟨_,zA0 (by have:=hfit.len;rw[zgc]at this;omega)⟩
   have q1:=(hfit.ent j (Value.string p,zwi v p) e (by rw[zgk,List.map_map,zAd,hp];rfl) hj).1
   have q2:=(hfit.ent j' (Value.string p',zwi v p') e' (by rw[zgk,List.map_map,zAd,hp'];rfl) hj').1
   rw[hee,q2]at q1
   simp only[Value.string.injEq]at q1
   subst q1
   have hpl':=(zA1.1 hp').1
   have:=(List.getElem?_inj hpl' (zaz v)).1 (hp'.trans hp.symm)
   subst this
   rw[hj]at hj'
   exact Option.some.inj hj'
  have hcl:cur.length=(wds v).length:=by rw[←hlen];exact hfit.len.symm
  refine z2j 42 0 7002 9 1 rfl rfl rfl rfl ?_
  refine z0f ?_
  refine z00 (z0s (fun z:Array Nat × List ByteArray=>⟨110,[(0,.d (.slice (v.map stc))),(5,.ref (0,6001)),(8,.ptr (0,42) 0),(44,.ptr (0,44) 0)],[(6001,.gmap g cur clock),(44,.mit g clock z.1 clock),(42,.box [.ref (0,7002),.d (.lit z2n),.d (.lit z2n)]),(7002,.row 9 1 (z.2.map stc))],H⟩)
   (fun z=>z.2.Nodup∧z.2.length≤(wds v).length∧∀s,s∈z.2↔∃e∈cur,e.key=.string s∧z.1.contains e.born=true) (fun z=>(leftOf cur.toArray z.1).size) ?_ (#[],[]) ⟨List.nodup_nil,zAf _,fun s=>by simp⟩) rfl rfl
  rintro⟨seen,L⟩ ⟨j1,j2,j3⟩ ihj
  simp only at j1 j2 j3 ihj⊢
  repeat' first|(apply z0r;first|refine y62 (ms:=6001) rfl rfl rfl hfit.clk (zAj _) hkeyc (by decide) (fun hall=>?_) (fun e he hse s hks=>?_)|refine y00 (ms:=6001) rfl rfl rfl he hfit.born hks (hkeyc e he).2 (by decide) ?_)|refine z04 ?_|fail
  all_goals try omega
  · -- nothing is left
    have hL:y1n L=wds v:=y0i j1 fun s=>⟨fun hs=>by
     obtain⟨e,he,hk,_⟩:=(j3 s).1 hs
     exact hkin e he s hk,fun hs=>by
     obtain⟨e,he,hk⟩:=hkall s hs
     exact(j3 s).2 ⟨e,he,hk,hall e he⟩⟩
    have hso:=y6t L (by omega) 0 7002
    rw[hL]at hso
    clear ihj
    repeat' first|(apply z06;refine z4u hso ?_)|refine z04 ?_|fail
    all_goals try omega
    refine zxb 6001 rfl hfit ?_
    clear hfit hall j1 j2 j3 hL hso hkey1 hkall hkin hkeyc hcl hlit
    have hasc:=zax v
    have hmem:=z9c v
    have hsz:∀w∈wds v,w.size≤1000:=fun w hw=>by have:=h3 w ((hmem w).1 hw);omega
    have hfi:=zzb (wds v) ((wds v).map (z5v v)) (by omega) hsz
    generalize hWd:wds v=W at *
    clear hWd
    refine z0o 7002 rfl ?_
    refine z2j 42 1 7003 3 1 rfl rfl rfl rfl ?_
    refine z0f ?_
    refine z00 (z0s (fun z:Nat × List Nat=>⟨110,[(0,.d (.slice (v.map stc))),(5,.ref (0,6001)),(8,.ptr (0,42) 0),(67,.d (.slice (W.map stc))),(68,I .i64 W.length),(69,I .i64 (z.1:Nat))],[(6001,mpQ v),(42,.box [.d (.slice (W.map stc)),.ref (0,7003),.d (.lit z2n)]),(7003,.row 3 1 (z.2.map nmc))],H⟩)
     (fun z=>z.1≤W.length∧z.2=(W.take z.1).map (z5v v)) (fun z=>W.length-z.1) ?_ (0,[]) ⟨zAf _,rfl⟩) rfl rfl
    rintro⟨i,C⟩ ⟨k1,k2⟩ ihk
    simp only at k1 k2 ihk⊢
    have hCl:C.length=i:=by rw[k2];simp;omega
    by_cases hlt2:i<W.length
    ·have hwg:=z4s hlt2
     have hget:=zpi v (wd W i)
     have ihk':=ihk (i+1,C++[z5v v (wd W i)]) ⟨by simp only;omega,by simp only;rw[List.take_add_one,hwg,k2];simp⟩ (by simp only;omega)
     simp only at ihk'
     generalize wd W i=x at *
     generalize z5v v x=c at *
     repeat' (first | (apply z01; (refine z07 (z11 (ys := W.map stc) rfl (idx hwg)) rfl rfl ?_)) | (apply z4i; (refine z4y (g := nmc) (by first | exact rfl | exact ⟨_, rfl, rfl, rfl⟩) rfl rfl c rfl rfl rfl rfl rfl rfl rfl (by decide) (by omega) ?_)) | (apply z10; ((refine zc1 mix (by kernel_rfl) ?_) /- zb8 -/)) | refine z04 ?_ | refine fk (fun _ => ?_) (fun _ => ?_) | (apply zle; (refine z0c (zu3 (et := 3) (a := x) (q := zgk v) (g := fun x : ByteArray => Value.string x) (z0 := Value.int .i64 0) (py := S x) y7d (zom.gen ybz) (z2d z3) rfl (fun β w own u h => h.lit) hget) rfl rfl ?_)))
     all_goals try omega
     refine z1d 82 7003 ?_
     exact z00 ihk' rfl rfl
    ·obtain rfl:i=W.length:=by omega
     rw[List.take_length]at k2
     clear ihk
     rw[←k2]at hfi⊢
     clear k2
     refine z0o 7003 rfl ?_
     refine z1d 42 1000 ?_
     repeat' first|(apply z06;refine z4u hfi ?_)|(apply zd8;refine zea (xs:=(List.replicate v.length 0).map nmc) rfl rfl (by omega) (by omega) rfl rfl rfl (by decide) (by simp) ?_)|refine z04 ?_|refine fk (fun _=>?_) fun _=>?_
     all_goals try omega
     refine z1d 90 7004 ?_
     refine z0f ?_
     refine z00 (z0s (fun z:Nat × List Nat=>⟨110,[(0,.d (.slice (v.map stc))),(8,.ptr (0,1000) 0),(12,.ref (0,7004)),(91,.d (.slice (v.map stc))),(92,I .i64 v.length),(93,I .i64 (z.1:Nat))],[(1000,lexB W C (zko W)),(7004,.row 3 1 (z.2.map nmc))],H⟩)
      (fun z=>z.1≤v.length∧z.2=(v.take z.1).map (fun x=>loS W x)++List.replicate (v.length-z.1) 0) (fun z=>v.length-z.1) ?_ (0,List.replicate v.length 0) ⟨zAf _,by simp⟩) rfl rfl
     rintro⟨i,N⟩ ⟨k1,k2⟩ ihk
     simp only at k1 k2 ihk⊢
     have hNl:N.length=v.length:=by rw[k2];simp;omega
     by_cases hlt2:i<v.length
     ·obtain⟨x,hx⟩:∃x,v[i]? =some x:=⟨_,zA0 hlt2⟩
      have hnu:=zsi (X:=1000) C (zko W) 0 hasc (by omega) x ((hmem x).2 (zA2 hx))
      obtain⟨r0,hr0⟩:∃r0,N[i]? =some r0:=⟨_,zA0 (by omega)⟩
      have ihk':=ihk (i+1,N.set i (loS W x)) ⟨by simp only;omega,by
       simp only
       rw[k2,List.take_add_one,hx,List.set_append_right _ _ (by simp;omega)]
       simp only[zA4,zAm,Option.toList,List.map_append,List.map_cons,List.map_nil,zAl,List.singleton_append]
       rw[show i-min i v.length=0 by omega,show v.length-i=(v.length-(i+1))+1 by omega,List.replicate_succ,List.set_cons_zero]⟩ (by simp only;omega)
      simp only at ihk'
      generalize loS W x=m at *
      repeat' first|(apply z01;first|refine z07 (z11 (ys:=v.map stc) rfl (idx hx)) rfl rfl ?_| refine z07 (z1a rfl (by rw[zA4];omega)) rfl rfl ?_)|(apply z06;refine z6s hnu ?_)|(apply z0x;refine z88 m rfl rfl rfl rfl hr0 rfl rfl rfl rfl ?_)|refine z04 ?_|refine fk (fun _=>?_) fun _=>?_
      all_goals try omega
      exact z00 ihk' rfl rfl
     ·obtain rfl:i=v.length:=by omega
      have hN:N=v.map fun x=>loS W x:=by rw[k2,List.take_length];simp
      clear ihk
      rw[←hN]
      refine z0o 7004 rfl ?_
      repeat' first|refine z04 ?_|refine fk (fun _=>?_) fun _=>?_
      all_goals try omega
      all_goals exact z03 func43 _ (zts rfl rfl rfl rfl rfl rfl) ⟨rfl,rfl⟩
  · -- one more
    have hsv:=hkin e he s hks
    have hns:s∉L:=fun hs=>by
     obtain⟨e',he',hk',hc'⟩:=(j3 s).1 hs
     have:=hkey1 e he e' he' (hks.trans hk'.symm)
     subst this
     rw[hse]at hc';cases hc'
    have hnd:(L++[s]).Nodup:=List.nodup_append.2 ⟨j1,by simp,fun a ha b hb=>by simp at hb;subst hb;rintro rfl;exact hns ha⟩
    have hm2:∀z,z∈L++[s]↔∃e'∈cur,e'.key=.string z∧(seen.push e.born).contains e'.born=true:=fun z=>by
     rw[zAt,zAq]
     constructor
     ·rintro(hz|rfl)
      ·obtain⟨e',he',hk',hc'⟩:=(j3 z).1 hz
       exact⟨e',he',hk',by rw[contains_push,hc',Bool.true_or]⟩
      ·exact⟨e,he,hks,by rw[contains_push,beq_self_eq_true,Bool.or_true]⟩
     ·rintro⟨e',he',hk',hc'⟩
      rw[contains_push,zAu]at hc'
      rcases hc' with hc'|hc'
      ·exact .inl ((j3 z).2 ⟨e',he',hk',hc'⟩)
      ·right
       have:=born_inj (l:=cur) (List.Pairwise.imp (fun h=>Nat.ne_of_lt h) hfit.born) he' he (beq_iff_eq.1 hc')
       subst this
       rw[hks]at hk'
       simpa using hk'.symm
    have hle:(L++[s]).length≤(wds v).length:=by
     have hsub:∀z∈L++[s],z∈wds v:=fun z hz=>by
      obtain⟨e',he',hk',_⟩:=(hm2 z).1 hz
      exact(z9c v z).2 (hkin e' he' z hk')
     exact hnd.length_le_of_subset hsub
    have hmu:(leftOf cur.toArray (seen.push e.born)).size<(leftOf cur.toArray seen).size:=left_shrinks cur.toArray seen e (Array.mem_toList_iff.2 (Array.mem_filter.2 ⟨by simpa using he,by rw[hse];rfl⟩))
    have ih':=ihj (seen.push e.born,L++[s]) ⟨hnd,hle,hm2⟩ hmu
    refine z1d 56 7002 ?_
    exact z00 ih' rfl rfl
end Go.Proofs.YtmcggompdmngmaaGreatDoor
namespace Go.Proofs.YtmcggompdmngmaaGreatDoor
open Go.Ab Go.Lx Go.Ax
set_option maxHeartbeats 20000000
set_option maxRecDepth 100000
attribute [local irreducible] Run Ops Op1 z0y Val Tr z0a z0u NF Rel z27 z29
def zlm(W:List ByteArray)(x:ByteArray):Bool:=decide (loS W x<W.length∧wd W (loS W x)=x)
theorem y9e(W:List ByteArray)(h:zc8 W)(hl:W.length≤1000000)(x:ByteArray)(m:Nm):z0a prog 81 [.agg [.d (.slice (W.map stc)),.ref m],S x] (.tup [I .i64 (loS W x:Nat),B (zlm W x)]):=by
 refine z0q fun H=>?_
 refine z05 func81 (by kernel_rfl) rfl (by simp) ?_
 dsimp only[f81]
 repeat' first|(apply z1n;refine z09 z3s ?_)|refine z04 ?_|fail
 all_goals try omega
 refine z0f ?_
 refine z00 (z0s (fun k:Nat=>⟨38,[(1,S x),(2,.ptr (0,2) 0),(6,I .i64 (k:Nat))],[(2,.box [.d (.slice (W.map stc)),.ref (m.1+1,m.2)])],H⟩) (fun k=>k≤W.length∧∀i,i<k→ltS (wd W i) x=true) (fun k=>W.length-k) ?_ 0 ⟨zAf _,fun i h=>absurd h (Nat.not_lt_zero _)⟩) rfl rfl
 exact zD7
theorem zve(W:List ByteArray)(h:zc8 W)(hl:W.length≤1000000)(x:ByteArray)(z:D):z0a prog 81 [.d (.agg [.slice (W.map stc),z]),S x] (.tup [I .i64 (loS W x:Nat),B (zlm W x)]):=by
 refine z0q fun H=>?_
 refine z05 func81 (by kernel_rfl) rfl (by simp) ?_
 dsimp only[f81]
 repeat' first|(apply z1n;refine z09 z3s ?_)|refine z04 ?_|fail
 all_goals try omega
 refine z0f ?_
 refine z00 (z0s (fun k:Nat=>⟨38,[(1,S x),(2,.ptr (0,2) 0),(6,I .i64 (k:Nat))],[(2,.box [.d (.slice (W.map stc)),.d z])],H⟩) (fun k=>k≤W.length∧∀i,i<k→ltS (wd W i) x=true) (fun k=>W.length-k) ?_ 0 ⟨zAf _,fun i h=>absurd h (Nat.not_lt_zero _)⟩) rfl rfl
 exact zD7
open Go.Ab Go.Rx Go.Lx Go.Ax
attribute [local irreducible] z5w
def zp3:List ByteArray→Int
 | []=>0
 | w::r=>if 120<w.size then 2 else if zcs w=false then 7 else zp3 r
def zic(v:List ByteArray):Int:=if 4096<v.length then 2 else if zp3 v≠0 then zp3 v else if 1024<(wds v).length then 2 else 0
theorem zmd:∀ {v:List ByteArray},zp3 v=0→∀w∈v,w.size≤120∧zcs w=true
 | [],_,w,hw=>by cases hw
 | x::v,h,w,hw=>by
  rw[zp3]at h
  split at h
  ·cases h
  ·split at h
   ·cases h
   ·rename_i h1 h2
    rcases zAc.1 hw with rfl|hw
    ·exact⟨by omega,by simpa using h2⟩
    ·exact zmd h w hw
theorem y5t{v:List ByteArray}(h:zic v=0):zfn v:=by
 rw[zic]at h
 split at h
 ·cases h
 ·split at h
  ·rename_i h1;exact absurd h h1
  ·rename_i h0 h1
   split at h
   ·cases h
   ·have h1:zp3 v=0:=by simpa using h1
    exact⟨by omega,by omega,fun w hw=>(zmd h1 w hw).1,fun w hw=>(zmd h1 w hw).2⟩
def zrd(v:List ByteArray):D:=.agg [.slice ((wds v).map stc),.slice (((wds v).map (z5v v)).map nmc)]
def rbR(v:List ByteArray):PV:=if zic v=0 then .tup [.d (zrd v),.d (.slice ((v.map fun x=>loS (wds v) x).map nmc)),I .i64 0]else .tup [.d (.agg [.slice [],.slice []]),.d (.lit z2n),I .i64 (zic v)]
theorem zsn{v:List ByteArray}{i:Nat}{x:ByteArray}(h:v[i]? =some x)(h1:¬120<x.size)(h2:zcs x=true):zp3 (v.drop i)=zp3 (v.drop (i+1)):=by
 rw[drop_cons h,zp3,zAy h1,zAy (by rw[h2];decide)]
theorem zoq(v:List ByteArray)(hv:v.length≤9223372036854775807):z0a prog 42 [.d (.slice (v.map stc))] (rbR v):=by
 refine z0q fun H=>?_
 refine z05 func42 (by kernel_rfl) rfl (by simp) ?_
 dsimp only[f42]
 by_cases hlen:4096<v.length
 ·have he:zic v=2:=by rw[zic,zAz hlen]
  rw[rbR,he,zAy (by decide)]
  repeat' first|(apply z1s;refine z09 z4t ?_)|refine z04 ?_|refine fk (fun _=>?_) fun _=>?_
  all_goals exact zD42
 repeat' first|(apply z1s;refine z09 z4t ?_)|refine z04 ?_|refine fk (fun _=>?_) fun _=>?_
 all_goals try omega
 refine z2j 5 0 7002 9 1 rfl rfl rfl rfl ?_
 refine z0o 7002 rfl ?_
 refine z2j 5 1 7003 3 1 rfl rfl rfl rfl ?_
 refine z0f ?_
 refine z00 (z0s (fun z:Nat × List ByteArray × List Nat=>⟨101,[(0,.d (.slice (v.map stc))),(2,.ptr (0,2) 0),(3,.d (.lit z2n)),(5,.ptr (0,5) 0),(20,.d (.slice (v.map stc))),(21,I .i64 v.length),(22,I .i64 (z.1:Nat))],[(2,.box [.d (.lit z2n),.d (.lit z2n)]),(5,.box [.d (.slice (z.2.1.map stc)),.ref (0,7003)]),(7003,.row 3 1 (z.2.2.map nmc))],H⟩)
  (fun z=>z.1≤v.length∧z.2.1=wds (v.take z.1)∧z.2.2=(wds (v.take z.1)).map (z5v (v.take z.1))∧zp3 (v.drop z.1)=zp3 v) (fun z=>v.length-z.1) ?_ (0,[],[]) ⟨zAf _,rfl,rfl,rfl⟩) rfl rfl
 rintro⟨i,W,C⟩ ⟨i1,i2,i3,i4⟩ ih
 simp only at i1 i2 i3 i4 ih⊢
 have hWl:W.length≤4096:=by
  have:=zy9 (v.take i)
  rw[i2,zvx];rw[zAm]at this;omega
 have hCl:C.length=W.length:=by rw[i3,i2,zA4]
 by_cases hlt:i<v.length
 ·obtain⟨x,hx⟩:∃x,v[i]? =some x:=⟨_,zA0 hlt⟩
  by_cases hs:120<x.size
  ·have he:zic v=2:=by
    rw[drop_cons hx,zp3,zAz hs]at i4
    rw[zic,zAy hlen,←i4];rfl
   rw[rbR,he,zAy (by decide)]
   clear ih i2 i3
   repeat' first|(apply z01;refine z07 (z11 (ys:=v.map stc) rfl (idx hx)) rfl rfl ?_)|refine z04 ?_|refine fk (fun _=>?_) fun _=>?_
   all_goals exact zD42
  have hva:=zyw x (by omega)
  cases hvx:zcs x with
  | false =>
   rw[hvx]at hva
   have he:zic v=7:=by
    rw[drop_cons hx,zp3,zAy hs,zAz hvx]at i4
    rw[zic,zAy hlen,←i4];rfl
   rw[rbR,he,zAy (by decide)]
   clear ih i2 i3
   repeat' first|(apply z01;refine z07 (z11 (ys:=v.map stc) rfl (idx hx)) rfl rfl ?_)|(apply z06;refine z1o hva ?_)|refine z04 ?_|refine fk (fun _=>?_) fun _=>?_
   all_goals exact zD42
  | true =>
   rw[hvx]at hva
   have htk:v.take (i+1)=v.take i++[x]:=by rw[List.take_add_one,hx];rfl
   have hasc:zc8 W:=by rw[i2];exact zax _
   have hins:wds (v.take (i+1))=zpm x W:=by rw[htk,y05,i2]
   have hat:=y98 hasc x
   have hE:=zsn hx hs hvx
   have hkl:loS W x≤W.length:=lo_le hasc x
   have hcnt:=y1q (v.take i) x
   have hcl2:z5v (v.take i) x≤4096:=by rw[zAm]at hcnt;omega
   by_cases hf:loS W x<W.length∧wd W (loS W x)=x
   ·rw[zAz hf]at hat
    have hfd:=y9e W hasc (by omega) x (0,7003)
    have hfb:zlm W x=true:=by rw[zlm];exact zAi hf
    rw[hfb]at hfd
    have hWk:=z4s hf.1
    rw[hf.2]at hWk
    have hCk:C[loS W x]? =some (z5v (v.take i) x):=by rw[i3,←i2,zAd,hWk];rfl
    have hset:C.set (loS W x) (z5v (v.take i) x+1)=W.map (z5v (v.take (i+1))):=by
     rw[i3,←i2,htk];exact zrf (zer hasc) _ hWk
    have ih':=ih (i+1,W,C.set (loS W x) (z5v (v.take i) x+1)) ⟨by simp only;omega,by simp only;rw[hins,hat],by simp only;rw[hset,hins,hat],by simp only;rw[←hE];exact i4⟩ (by simp only;omega)
    simp only at ih'
    clear ih i3
    generalize z5v (v.take i) x=c at *
    generalize loS W x=k at *
    repeat' first|(apply z1f;first|refine z07 (zyl rfl rfl rfl rfl) rfl rfl ?_| refine z07 (z0e hCk) rfl rfl ?_)|(apply z01;first|refine z07 (z11 (ys:=v.map stc) rfl (idx hx)) rfl rfl ?_| refine z07 (z1a rfl (by rw[zA4];omega)) rfl rfl ?_)|(apply z06;first|refine z1o hva ?_| refine z1o hfd ?_)|(apply z0x;refine z88 (c+1) rfl rfl rfl rfl hCk rfl rfl rfl rfl ?_)|refine z04 ?_|refine fk (fun _=>?_) fun _=>?_
    all_goals try omega
    exact z00 ih' rfl rfl
   ·rw[zAy hf]at hat
    have hxW:x∉W:=fun hx=>hf (ztj hasc hx)
    have hxv:x∉v.take i:=fun hx=>hxW (by rw[i2,z9c];exact hx)
    have hfd:=zve W hasc (by omega) x (.slice (C.map nmc))
    have hfb:zlm W x=false:=by rw[zlm];exact zAo hf
    rw[hfb]at hfd
    have hc0:=zi9 hxv
    have hnew:(W.take (loS W x)++x::W.drop (loS W x)).map (z5v (v.take (i+1)))=((C.take (loS W x)++[0])++C.drop (loS W x)).set (loS W x) 1:=by
     have h1:=y5s (v.take i) W x (loS W x) hxv
     have h2:=zrf (W:=W.take (loS W x)++x::W.drop (loS W x)) (by rw[←hat];exact zer (z9k x hasc)) (v.take i) (x:=x) (k:=loS W x) (by rw[zAg (by rw[zAm];omega),zAm];simp[show loS W x-min (loS W x) W.length=0 by omega])
     rw[hc0,Nat.zero_add]at h2
     rw[htk,←h2,←h1,i3,←i2,zAl];rfl
    have hCk:((C.take (loS W x)++[0])++C.drop (loS W x))[loS W x]? =some 0:=by
     rw[zAl,zAg (by rw[zAm];omega),zAm];simp[show loS W x-min (loS W x) C.length=0 by omega]
    have ih':=ih (i+1,(W.take (loS W x)++[x])++W.drop (loS W x),((C.take (loS W x)++[0])++C.drop (loS W x)).set (loS W x) 1) ⟨by simp only;omega,by simp only;rw[hins,hat,zAl];rfl,by simp only;rw[←hnew,hins,hat],by simp only;rw[←hE];exact i4⟩ (by simp only;omega)
    simp only at ih'
    clear ih i3 hnew
    generalize loS W x=k at *
    have hl1:((C.take k++[0])++C.drop k).length=C.length+1:=by simp;omega
    refine z0o 7003 rfl ?_
    repeat' (first | (apply z1f; (refine z07 (z0e hCk) rfl rfl ?_)) | (apply z01; (first | refine z07 (z11 (ys := v.map stc) rfl (idx hx)) rfl rfl ?_| refine z07 (z1a rfl (by rw [zA4]; omega)) rfl rfl ?_)) | (apply z3p; (first | refine z0c (zef (q := W) (g := stc) rfl (by omega) (by omega) (fun _ => rfl)) rfl rfl ?_| refine z0c (z3z (q := W) (g := stc) rfl (by omega) (by omega) (fun _ => rfl)) rfl rfl ?_| refine z0c (zef (q := C) (g := nmc) rfl (by omega) (by omega) (fun _ => rfl)) rfl rfl ?_| refine z0c (z3z (q := C) (g := nmc) rfl (by omega) (by omega) (fun _ => rfl)) rfl rfl ?_)) | (apply z4i; (first | refine zrp (r := W.take k) (g := stc) (by first | exact rfl | exact ⟨_, rfl, rfl, rfl⟩) rfl rfl rfl (fun _ => rfl) rfl rfl (by decide) (by rw [zAm]; omega) ?_ | refine z4y (g := stc) (by first | exact rfl | exact ⟨_, rfl, rfl, rfl⟩) rfl rfl x rfl rfl rfl rfl rfl rfl rfl (by decide) (by rw [zAm]; omega) ?_ | refine zk3 (r := W.drop k) (g := stc) (by first | exact rfl | exact ⟨_, rfl, rfl, rfl⟩) rfl rfl rfl rfl rfl (fun _ => rfl) rfl rfl (by decide) (by rw [zAa, zAm, List.length_drop, zAn]; omega) ?_ | refine zrp (r := C.take k) (g := nmc) (by first | exact rfl | exact ⟨_, rfl, rfl, rfl⟩) rfl rfl rfl (fun _ => rfl) rfl rfl (by decide) (by rw [zAm]; omega) ?_ | refine z4y (g := nmc) (by first | exact rfl | exact ⟨_, rfl, rfl, rfl⟩) rfl rfl 0 rfl rfl rfl rfl rfl rfl rfl (by decide) (by rw [zAm]; omega) ?_ | refine zk3 (r := C.drop k) (g := nmc) (by first | exact rfl | exact ⟨_, rfl, rfl, rfl⟩) rfl rfl rfl rfl rfl (fun _ => rfl) rfl rfl (by decide) (by rw [zAa, zAm, List.length_drop, zAn]; omega) ?_)) | (apply z06; (first | refine z1o hva ?_| refine z1o hfd ?_)) | (apply z0x; (refine z88 1 rfl rfl rfl rfl hCk rfl rfl rfl rfl ?_)) | (apply z10; ((refine zc1 mix (by kernel_rfl) ?_) /- zb8 -/)) | refine z04 ?_ | refine fk (fun _ => ?_) (fun _ => ?_))
    all_goals try omega
    refine z0o 54 rfl ?_
    refine z1d 67 7003 ?_
    exact z00 ih' rfl rfl
 ·obtain rfl:i=v.length:=by omega
  rw[List.take_length]at i2 i3
  rw[zAs]at i4
  have hE:zp3 v=0:=i4.symm
  have hasc:zc8 W:=by rw[i2];exact zax _
  clear ih
  by_cases hw:1024<W.length
  ·have he:zic v=2:=by rw[zic,zAy hlen,hE,zAy (by simp),zAz (by rw[←i2];exact hw)]
   rw[rbR,he,zAy (by decide)]
   clear i2 i3
   refine z0o 7003 rfl ?_
   repeat' first|refine z04 ?_|refine fk (fun _=>?_) fun _=>?_
   all_goals exact zD42
  ·have he:zic v=0:=by rw[zic,zAy hlen,hE,zAy (by simp),zAy (by rw[←i2];exact hw)]
   rw[←i2]at i3
   rw[rbR,zAz he,zrd,←i2,←i3]
   clear i3
   refine z0o 7003 rfl ?_
   repeat' first|refine z04 ?_|refine fk (fun _=>?_) fun _=>?_
   all_goals try omega
   refine z1j 10 7005 3 1 rfl rfl rfl ?_
   refine z0f ?_
   refine z00 (z0s (fun z:Nat × List Nat=>⟨101,[(0,.d (.slice (v.map stc))),(2,.ptr (0,2) 0),(5,.ptr (0,5) 0),(10,.ref (0,7005)),(82,.d (.slice (v.map stc))),(83,I .i64 v.length),(84,I .i64 (z.1:Nat))],[(2,.box [.d (.lit z2n),.d (.lit z2n)]),(5,.box [.d (.slice (W.map stc)),.d (.slice (C.map nmc))]),(7005,.row 3 1 (z.2.map nmc))],H⟩)
    (fun z=>z.1≤v.length∧z.2=(v.take z.1).map fun x=>loS W x) (fun z=>v.length-z.1) ?_ (0,[]) ⟨zAf _,rfl⟩) rfl rfl
   rintro⟨i,N⟩ ⟨k1,k2⟩ ihk
   simp only at k1 k2 ihk⊢
   have hNl:N.length=i:=by rw[k2];simp;omega
   by_cases hlt2:i<v.length
   ·obtain⟨x,hx⟩:∃x,v[i]? =some x:=⟨_,zA0 hlt2⟩
    have hfd:=zve W hasc (by omega) x (.slice (C.map nmc))
    have ihk':=ihk (i+1,N++[loS W x]) ⟨by simp only;omega,by simp only;rw[List.take_add_one,hx,k2];simp⟩ (by simp only;omega)
    simp only at ihk'
    generalize loS W x=m at *
    generalize zlm W x=fb at *
    repeat' first|(apply z01;refine z07 (z11 (ys:=v.map stc) rfl (idx hx)) rfl rfl ?_)|(apply z14;refine z2w (g:=nmc) m rfl ?_)|(apply z06;refine z1o hfd ?_)|refine z04 ?_|refine fk (fun _=>?_) fun _=>?_
    all_goals try omega
    refine z1d 97 7005 ?_
    exact z00 ihk' rfl rfl
   ·obtain rfl:i=v.length:=by omega
    rw[List.take_length]at k2
    clear ihk
    rw[←k2]
    refine z0o 7005 rfl ?_
    repeat' first|refine z04 ?_|refine fk (fun _=>?_) fun _=>?_
    all_goals exact zD42
abbrev ic(x:Int):List D:=[.lit (.int .i64 x)]
abbrev inD(l:List Int):D:=.slice (l.map ic)
def ybb(v:List ByteArray):Int:=v.foldl (fun n w=>IntKind.i64.wrap (n+w.size)) 0
def zzf(v:List ByteArray):Bool:=decide (30<v.length)||decide (1000<ybb v)||!decide (zic v=0)
theorem y9i{v:List ByteArray}(h:zzf v=false):v.length≤30∧zfn v:=by
 simp only[zzf,Bool.or_eq_false_iff,zA5,zA8,zA3]at h
 exact⟨by omega,y5t h.2⟩
theorem y8h(v:List ByteArray)(hv:v.length≤9223372036854775807):z0a prog 11 [.d (.slice (v.map stc))] (B (zzf v)):=by
 refine z0q fun H=>?_
 have hrb:=zoq v hv
 refine z05 func11 (by kernel_rfl) rfl (by simp) ?_
 dsimp only[f11]
 repeat' first|refine z04 ?_|fail
 all_goals try omega
 refine z0f ?_
 refine z00 (z0s (fun z:Nat × Int=>⟨37,[(0,.d (.slice (v.map stc))),(3,I .i64 z.2),(9,.d (.slice (v.map stc))),(10,I .i64 v.length),(11,I .i64 (z.1:Nat))],[],H⟩) (fun z=>z.1≤v.length∧z.2=ybb (v.take z.1)) (fun z=>v.length-z.1) ?_ (0,0) ⟨zAf _,rfl⟩) rfl rfl
 rintro⟨i,n⟩ ⟨i1,i2⟩ ih
 simp only at i1 i2 ih⊢
 by_cases hlt:i<v.length
 ·obtain⟨x,hx⟩:∃x,v[i]? =some x:=⟨_,zA0 hlt⟩
  have ih':=ih (i+1,IntKind.i64.wrap (n+x.size)) ⟨by simp only;omega,by simp only;rw[List.take_add_one,hx,i2,ybb,ybb,Option.toList,List.foldl_append];rfl⟩ (by simp only;omega)
  simp only at ih'
  clear ih
  have e:IntKind.i64.wrap ((i:Int)+1)=(i:Int)+1:=zwj (by omega) (by omega)
  rw[show((i+1:Nat):Int)=IntKind.i64.wrap ((i:Int)+1) by rw[e];rfl]at ih'
  repeat' first|(apply z01;refine z07 (z11 (ys:=v.map stc) rfl (idx hx)) rfl rfl ?_)|(apply z0t;refine z07 y96 rfl rfl ?_)|refine z04 ?_|refine fk (fun _=>?_) fun _=>?_
  all_goals exact zD8
 ·obtain rfl:i=v.length:=by omega
  rw[List.take_length]at i2
  clear ih
  rw[zzf,←i2]
  obtain⟨a1,a2,b,hR⟩:∃a1 a2 b,rbR v=.tup [.d (.agg [a1,a2]),.d b,I .i64 (zic v)]:=by
   rw[rbR]
   split
   ·rename_i he;exact⟨_,_,_,by rw[he];rfl⟩
   ·exact⟨_,_,_,rfl⟩
  rw[hR]at hrb
  clear hR
  generalize zic v=e at *
  have hb:∀b:Bool,(decide (30<v.length)||decide (1000<n)||!decide (e=0))=b→(if b=true then 30<v.length∨1000<n∨e≠0 else v.length≤30∧n≤1000∧e=0):=fun b hb=>by
   subst hb
   split
   ·rename_i h;simp only[zAu,zA3,zA6,zA5]at h;omega
   ·rename_i h;simp only[Bool.not_eq_true,Bool.or_eq_false_iff,zA5,zA8,zA3]at h;omega
  cases hc:(decide (30<v.length)||decide (1000<n)||!decide (e=0))
  all_goals have hb':=hb _ hc
  all_goals clear hb hc i2
  all_goals simp only[if_true,Bool.false_eq_true,if_false]at hb'
  all_goals repeat' first|(apply z06;refine z1o hrb ?_)|(apply z1s;refine z09 z4t ?_)|refine z04 ?_|refine fk (fun _=>?_) fun _=>?_
  all_goals try (exfalso;first|omega|(simp at *;omega))
  all_goals first|exact z03 func11 _ z1h ⟨rfl,rfl⟩|exact z03 func11 _ z1h ⟨congrArg (fun b=>RV.v (B b)) (by simp;omega),rfl⟩
theorem zm5(a b:List Int)(hl:a.length≤1000000):z0a prog 16 [.d (inD a),.d (inD b)] (B (decide (a=b))):=by
 refine z0q fun H=>?_
 refine z05 func16 (by kernel_rfl) rfl (by simp) ?_
 dsimp only[f16]
 by_cases hlen:a.length=b.length
 case neg =>
  rw[zAo fun h=>hlen (by rw[h])]
  all_goals exact zD117
 repeat' first|refine z04 ?_|refine fk (fun _=>?_) fun _=>?_
 all_goals try omega
 refine z0f ?_
 refine z00 (z0s (fun i:Nat=>⟨26,[(0,.d (inD a)),(1,.d (inD b)),(11,.d (inD a)),(12,I .i64 a.length),(13,I .i64 (i:Nat))],[],H⟩) (fun i=>i≤a.length∧a.take i=b.take i) (fun i=>a.length-i) ?_ 0 ⟨zAf _,rfl⟩) rfl rfl
 rintro i ⟨i1,i2⟩ ih
 by_cases hlt:i<a.length
 ·obtain⟨x,hx⟩:∃x,a[i]? =some x:=⟨_,zA0 hlt⟩
  obtain⟨y,hy⟩:∃y,b[i]? =some y:=⟨_,zA0 (by omega)⟩
  by_cases hxy:x=y
  ·have ih':=ih (i+1) ⟨by omega,by rw[List.take_add_one,List.take_add_one,hx,hy,i2,hxy]⟩ (by omega)
   clear ih
   repeat' first|(apply z02;first|refine z0c (z11 (ys:=a.map ic) rfl (idx hx)) rfl rfl ?_| refine z0c (z11 (ys:=b.map ic) rfl (idx hy)) rfl rfl ?_)|refine z04 ?_|refine fk (fun _=>?_) fun _=>?_
   all_goals try (exfalso;first|omega|(simp at *;omega))
   all_goals exact z00 ih' rfl rfl
  ·rw[zAo fun h=>hxy (by rw[h,hy]at hx;exact(Option.some.inj hx).symm)]
   clear ih
   repeat' first|(apply z02;first|refine z0c (z11 (ys:=a.map ic) rfl (idx hx)) rfl rfl ?_| refine z0c (z11 (ys:=b.map ic) rfl (idx hy)) rfl rfl ?_)|refine z04 ?_|refine fk (fun _=>?_) fun _=>?_
   all_goals try (exfalso;first|omega|(simp at *;omega))
   all_goals exact z03 func16 _ z1h ⟨rfl,rfl⟩
 ·obtain rfl:i=a.length:=by omega
  rw[List.take_length,hlen,List.take_length]at i2
  rw[zAi i2]
  clear ih
  all_goals exact zD117
theorem y54(v:List ByteArray)(h:zfn v)(he:zic v=0)(H:Hf):Ab.Spec prog 13 [.d (.slice (v.map stc))] H (fun r H'=>r=.newT (lexB (wds v) ((wds v).map (z5v v)) (zko (wds v))) [.d (zrd v),.d (.lit (.bool true))]∧H'=H):=by
 have hb:=zmy v h
 have hrb:=zoq v (by have:=h.len;omega)
 rw[rbR,zAz he]at hrb
 have hsz:=fun(X:Nat)=>zjo (X:=X) (wds v) ((wds v).map (z5v v)) (zko (wds v)) 0
 generalize (v.map fun x=>loS (wds v) x)=N at *
 rw[zrd]at hrb⊢
 generalize zko (wds v)=rv at *
 generalize (wds v).map (z5v v)=C at *
 generalize wds v=W at *
 refine z05 func13 (by kernel_rfl) rfl (by simp) ?_
 dsimp only[f13]
 have hs13:=hsz 13
 repeat' (first | (apply z06; (first | (refine zee rfl (hb _) (by decide) rfl (fun r H' h => ⟨_, _, _, h.1, h.2, rfl, rfl, ?_⟩)) /- z65 -/ | refine z1o hrb ?_)) | (apply z0l; (refine za0 hs13 (by first | exact rfl | exact ⟨_, rfl, rfl, rfl⟩) rfl rfl (by decide) ?_)) | (apply z1s; (refine z09 z4t ?_)) | refine z04 ?_ | (apply zle; (refine z0c (ycl rfl) rfl rfl ?_)))
 all_goals try (exfalso;first|omega|(simp at *;omega))
 all_goals exact z03 func13 _ (zs5 rfl rfl rfl rfl rfl rfl rfl rfl rfl rfl) ⟨congrArg (fun b=>RV.newT (lexB W C rv) [.d (.agg [.slice (W.map stc),.slice (C.map nmc)]),.d (.lit (.bool b))]) (zAi rfl),rfl⟩
end Go.Proofs.YtmcggompdmngmaaGreatDoor
