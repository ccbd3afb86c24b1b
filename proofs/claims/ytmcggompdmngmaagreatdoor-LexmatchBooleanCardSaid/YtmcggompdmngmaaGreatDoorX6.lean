/- A part. -/
import Derived.Test.YtmcggompdmngmaaGreatDoorX5
set_option linter.all false
open Go.Proofs.Tryz
namespace Go.Proofs.YtmcggompdmngmaaGreatDoor
open Go.Ab Go.Ax Go.Rx
set_option maxHeartbeats 20000000
set_option maxRecDepth 100000
def y4o(x:Int):List Int→List Int
 | []=>[x]
 | y::l=>if x≤y then x::y::l else y::y4o x l
def y5w:List Int→List Int
 | []=>[]
 | x::l=>y4o x (y5w l)
theorem zeg(x:Int):∀l:List Int,(y4o x l).Perm (x::l)
 | []=>List.Perm.refl _
 | y::l=>by
  rw[y4o]
  split
  ·exact List.Perm.refl _
  ·exact((zeg x l).cons y).trans (List.Perm.swap x y l)
theorem zjt:∀l:List Int,(y5w l).Perm l
 | []=>List.Perm.refl _
 | x::l=>(zeg x (y5w l)).trans ((zjt l).cons x)
theorem zpo(x:Int):∀l:List Int,l.Pairwise (· ≤·)→(y4o x l).Pairwise (· ≤·)
 | [],_=>by simp[y4o]
 | y::l,h=>by
  rw[y4o]
  rw[List.pairwise_cons]at h
  split
  ·rename_i hx
   refine List.pairwise_cons.2 ⟨fun z hz=>?_,List.pairwise_cons.2 h⟩
   rcases zAc.1 hz with rfl|hz
   ·exact hx
   ·have:=h.1 z hz;omega
  ·rename_i hx
   refine List.pairwise_cons.2 ⟨fun z hz=>?_,zpo x l h.2⟩
   rcases zAc.1 ((zeg x l).mem_iff.1 hz)with rfl|hz
   ·omega
   ·exact h.1 z hz
theorem zog:∀l:List Int,(y5w l).Pairwise (· ≤·)
 | []=>by simp[y5w]
 | x::l=>zpo x _ (zog l)
theorem zzk(l:List Int):Go.Ax.srt l=y5w l:=y2p (zjt l).symm (zog l)
def y42(L:List (List Rg)):List Int:=cpt (y5w (z4j L))
theorem y8l(L:List (List Rg)):z8o L=y42 L:=by rw[z8o,zzk];rfl
theorem y46(N:Nat)(lv:List (List Rg)):zf4 N lv=(List.range ((y42 (z9g N 0 lv)).length-1)).filterMap (cE N lv (y42 (z9g N 0 lv))):=by
 rw[zf4,zk5,y8l]
abbrev pA:Au:=⟨[false,true,true,false],[[(0,96,1),(97,97,2),(98,1114111,1)],[(0,1114111,1)],[(0,97,1),(98,98,3),(99,1114111,1)],[(0,96,1),(97,97,2),(98,1114111,1)]]⟩
theorem zrj{F:List Bool}{A:List (List Arc)}(h:∀q:Nat,q<F.length→z57 F A q):z3m F A=F.map fun _=>true:=by
 rw[z3m]
 refine List.ext_getElem (by simp) fun i h1 h2=>?_
 simp only[List.getElem_map,List.getElem_range]
 simp at h1
 have h2:=h i h1
 rw[←List.getElem_range (n:=F.length) (j:=i) (by simpa using h1)]at h2
 exact@decide_eq_true _ (_) h2
theorem zti:∀ {l:List Arc} {p:Option Arc},okA p l→(l.map fun x=>x.1).Pairwise (· <·)
 | [],_,_=>List.Pairwise.nil
 | x::l,p,h=>by
  rw[List.map_cons,List.pairwise_cons]
  refine⟨fun z hz=>?_,zti h.2.2.2⟩
  obtain⟨e,he,rfl⟩:=List.mem_map.1 hz
  have:=zj8 h.2.2.2 e he
  have:=h.1
  omega
theorem zlr{l:List Arc}{p:Option Arc}(h:okA p l)(hr:∀x∈l,0≤x.1∧x.1≤1114111):l.length≤1114112:=by
 have:=zmk (B:=1114111) (zti h) fun z hz=>by
  obtain⟨e,he,rfl⟩:=List.mem_map.1 hz
  have:=hr e he
  omega
 rw[zA4]at this
 exact this
theorem ztz{B:Nat}:∀ {A:List (List Arc)},(∀l∈A,l.length≤B)→(A.map List.length).sum≤A.length*B
 | [],_=>by simp
 | l::A,h=>by
  rw[List.map_cons,List.sum_cons,zAk,Nat.succ_mul]
  have:=h l (by simp)
  have:=ztz (A:=A) fun m hm=>h m (by simp[hm])
  omega
theorem zi3{a:Au}(h:vAu a=0):zfy a.F a.A∧∀l∈a.A,l.length≤1114112:=by
 have hv:=zsx h
 have hl:∀l∈a.A,l.length≤1114112:=fun l hl=>zlr (hv.arc l hl).1 fun x hx=>by have:=(hv.arc l hl).2 x hx;omega
 have hs:=ztz hl
 have h1:=hv.few
 have h2:=hv.len
 have h3:a.A.length*1114112≤256*1114112:=Nat.mul_le_mul_right _ (by omega)
 exact⟨⟨hv.len,fun l h=>⟨(hv.arc l h).1,by have:=hl l h;omega,(hv.arc l h).2⟩,by omega,hv.pos,by omega⟩,hl⟩
theorem zhk{a:Au}(h:vAu a=0):zqr a:=by
 have h1:=(zi3 h).1
 have h2:=h1.len
 have h3:=h1.few
 exact⟨by omega,by omega,fun l hl=>by have:=(zi3 h).2 l hl;omega⟩
attribute [local irreducible] Run Ops Op1 z0y Val Tr z0a z0u NF Rel z27 z29 z5w
open Go.Ab Go.Ax Go.Rx Go.ChangeShapes Go.WideShapes Go.ChangeAt Go.RowKit
theorem y85{ds:List D}(h:ShL prog [21,21,3] ds):∃a:Arc,ds=z3g a:=by
 obtain⟨a,_,rfl,h1,b,_,rfl,h2,c,_,rfl,h3,rfl⟩:=h
 obtain⟨x,rfl,_⟩:=h1.inv_int (k:=.i32) (by kernel_rfl)
 obtain⟨y,rfl,_⟩:=h2.inv_int (k:=.i32) (by kernel_rfl)
 obtain⟨z,rfl,_⟩:=h3.inv_int (k:=.i64) (by kernel_rfl)
 exact⟨(x,y,z),rfl⟩
theorem y47{ds:List D}(h:Sh prog 96 ds):∃l:List Arc,ds=z7m l∧l.length≤9223372036854775807:=by
 obtain⟨l,rfl,hl,_⟩:=h.inv_list (e:=98) z3g (fun _=>True) (by kernel_rfl) fun x hx=>by
  obtain⟨a,rfl⟩:=y85 (hx.inv_fields (ts:=[21,21,3]) (by kernel_rfl))
  exact⟨a,rfl,trivial⟩
 exact⟨l,rfl,hl⟩
theorem y8y{ds:List D}(h:Sh prog 23 ds):∃l:List Bool,ds=[zio l]∧l.length≤9223372036854775807:=by
 obtain⟨l,rfl,hl,_⟩:=h.inv_list (e:=4) boc (fun _=>True) (by kernel_rfl) fun x hx=>by
  cases hx with
  | bool _ b _=>exact⟨b,rfl,trivial⟩
  | int t k z hu _ _=>exact absurd (hu.symm.trans (show prog.underlying 4=some .bool by kernel_rfl)) (by simp)
  | str t z hu _=>exact absurd (hu.symm.trans (show prog.underlying 4=some .bool by kernel_rfl)) (by simp)
  | slice t _ _ hu _ _=>exact absurd (hu.symm.trans (show prog.underlying 4=some .bool by kernel_rfl)) (by simp)
  | struct t _ _ hu _ _=>exact absurd (hu.symm.trans (show prog.underlying 4=some .bool by kernel_rfl)) (by simp)
 exact⟨l,rfl,hl⟩
theorem ybr{ds:List D}(h:ShL prog [23,24] ds):∃a:Au,ds=auc a∧zqr a:=by
 obtain⟨a,_,rfl,h1,b,_,rfl,h2,rfl⟩:=h
 obtain⟨F,rfl,hF⟩:=y8y h1
 obtain⟨A,rfl,hA,hl⟩:=h2.inv_list (e:=96) z7m (fun l=>l.length≤9223372036854775807) (by kernel_rfl) fun x hx=>y47 hx
 exact⟨⟨F,A⟩,rfl,hF,hA,hl⟩
theorem y9n{H:Type}{enc:TypeId × Value→H}{W:World}{v:Value}{d:DataW H}{p:List MemPlace}{r:Reach}{b0:Nat}(hsep:∀g o v,zk9 g→W.cell? ⟨g,o,none⟩=some v→∃z,v=.int .u8 z)(hval:Value.okWide prog W r b0 26 v)
 (h:DataW.Trod enc prog W 0 (fun _=>true) true 26 v d p):∃a:Au,zqr a∧DR W zk9 (auD a) v:=by
 obtain⟨ds,h1,h2,_⟩:=zoh hsep (G:=[26,23,24,4,96,98,21,3]) (by kernel_rfl) (by kernel_rfl) (by decide) hval h
 obtain⟨fs,u25,_⟩:=z7y (show fieldTypes prog 26=some [23,24] by kernel_rfl)
 obtain⟨a,rfl,ha⟩:=ybr (h1.inv_fields (ts:=[23,24]) (by kernel_rfl))
 exact⟨a,ha,h2 ⟨fs,u25⟩⟩
end Go.Proofs.YtmcggompdmngmaaGreatDoor
namespace Go.Proofs.YtmcggompdmngmaaGreatDoor
open Go.Ab Go.Ax Go.Rx
set_option maxHeartbeats 20000000
set_option maxRecDepth 100000
theorem zuf{a:Au}(h:vAu a=0):AuW a:=by
 have hv:=zsx h
 exact⟨hv.len,hv.arc,hv.pos⟩
theorem zvl{a:Au}(hv:AuW a)(hn:a.F.length≤256):zfy a.F a.A:=by
 have hl:∀l∈a.A,l.length≤1114112:=fun l hl=>zlr (hv.arc l hl).1 fun x hx=>by have:=(hv.arc l hl).2 x hx;omega
 have hs:=ztz hl
 have h2:=hv.len
 have h3:a.A.length*1114112≤256*1114112:=Nat.mul_le_mul_right _ (by omega)
 exact⟨hv.len,fun l h=>⟨(hv.arc l h).1,by have:=hl l h;omega,(hv.arc l h).2⟩,by omega,hv.pos,by omega⟩
theorem y9r{n:Nat}(cl:List Int)(hl:cl.length=n)(q:Nat)(hq:q<n):stQ cl (cl.getD q 0)<n∧cl.getD (stQ cl (cl.getD q 0)) 0=cl.getD q 0:=by
 obtain⟨r,hr⟩:=z9n (cl:=cl) (k:=cl.getD q 0) (j:=cl.length) (s:=q) (by omega) rfl
 have h:=z6e hr
 rw[stQ,hr]
 exact⟨by simpa[hl]using h.1,h.2⟩
theorem ztb{a:Au}(h:AuW a)(hn:a.F.length≤256):∃m,y75 a.F a.A 256=some m∧Nrm m∧AuW m∧m.F.length≤a.F.length∧∀w,m.acc 0 w=a.acc 0 w:=by
 obtain⟨cl,hcl,m,hm,h1⟩:=zxi h hn (st:=stQ) fun cl hl q hq=>y9r cl hl q hq
 refine⟨m,?_,h1⟩
 rw[y75,hcl]
 exact hm
attribute [local irreducible] Run Ops Op1 z0y Val Tr z0a z0u NF Rel z27 z29 z5w
theorem zu0:∀ {n:Int} {l:List Arc} {p:Option Arc},okA p l→(∀x∈l,0≤x.1∧x.1≤x.2.1∧x.2.1≤1114111∧0≤x.2.2∧x.2.2<n)→zme n p l=0
 | n,[],p,_,_=>by cases p <;> rfl
 | n,x::l,p,h,hx=>by
  have h1:=hx x (by simp)
  have hb:¬y2z n x=true:=by
   simp only[y2z,zAu,zA3,not_or];omega
  have ih:=zu0 h.2.2.2 fun y hy=>hx y (by simp[hy])
  rw[ze2,zAy hb]
  cases p with
  | none=>exact ih
  | some y =>
   have h2:=h.2.2.1 y rfl
   have hb2:¬zwt y x=true:=by
    simp only[zwt,zAu,zA7,zA3,not_or]
    refine⟨by omega,fun g=>h2.2 ⟨by omega,g.2.symm⟩⟩
   simp only
   rw[zAy hb2];exact ih
theorem znl{n:Int}:∀ {A:List (List Arc)},(∀l∈A,zme n none l=0)→zez n A=0
 | [],_=>rfl
 | l::A,h=>by
  rw[zez,zAy (by rw[h l (by simp)];simp)]
  exact znl fun m hm=>h m (by simp[hm])
theorem znz{a:Au}(h:AuW a)(hn:a.F.length≤256):vAu a=0:=by
 have:=h.pos
 have:=h.len
 rw[vAu,zAy (by omega),zAy (by omega)]
 exact znl fun l hl=>zu0 (h.arc l hl).1 (h.arc l hl).2
end Go.Proofs.YtmcggompdmngmaaGreatDoor
