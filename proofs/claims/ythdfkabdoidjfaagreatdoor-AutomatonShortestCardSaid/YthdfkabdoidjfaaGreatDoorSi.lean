/- A part of the proof: RX23 to AX22. -/
import Derived.Test.YthdfkabdoidjfaaGreatDoorSx
import Derived.Test.YthdfkabdoidjfaaGreatDoorSy
set_option linter.all false
namespace Go.Rx
open Go
def txN (l:List Int):List Nat:=l.flatMap fun c=>ecL (zfp c)
def txE (l:List Int):ByteArray:=y3e (txN l)
theorem y1w (c:Int):∀ x∈ecL (zfp c),x<256:=by
 rw[← zso];exact y33 _
theorem z7e (l:List Int):btN (txE l)=txN l:=zvz fun x hx=>by
 rw[txN,List.mem_flatMap] at hx
 obtain⟨c,_,hx⟩:=hx
 exact y1w c x hx
theorem zyq {l m:List Int} (h:txN l=txN m):txE l=txE m:=by rw[txE,h,txE]
theorem zz8 (s t:ByteArray):btN (s++t)=btN s++btN t:=by
 rw[btN,btN,btN,ByteArray.data_append,Array.toList_append,List.map_append]
theorem zzt (a b:List Int):txE (a++b)=txE a++txE b:=zjk (by
 rw[zz8,z7e,z7e,z7e,txN,List.flatMap_append];rfl)
theorem y0t:txE []=ByteArray.empty:=rfl
theorem y0r (c:Int):txE [c]=Utf8.encode c:=zjk (by rw[z7e,zso,txN];simp)
theorem zth (k:Nat):1≤(ecL k).length∧(ecL k).length≤4:=by
 unfold ecL;repeat' split
 all_goals simp
theorem zqb:∀ l:List Int,l.length≤(txN l).length∧(txN l).length≤4*l.length
 | []=>by simp[txN]
 | c::l=>by
  have ih:=zqb l
  have:=zth (zfp c)
  have e:txN (c::l)=ecL (zfp c)++txN l:=by rw[txN,List.flatMap_cons];rfl
  rw[e,zAa,zAk];omega
theorem zw2 (l:List Int):l.length≤(txE l).size∧(txE l).size≤4*l.length:=by
 rw[← zb8,z7e];exact zqb l
def zE (c:Int):Nat:=(ecL (zfp c)).length
theorem zro:∀ (l:List Int) (f:Nat),(txN l).length≤f→(∀ c∈l,Utf8.valid c=true)→unL f (txN l)=mkU zE l
 | [],f,_,_=>by rw[show txN []=[] from rfl,zjm];rfl
 | c::l,f,h,hv=>by
  have hc:=hv c (by simp)
  have hl:=zth (zfp c)
  have e:txN (c::l)=ecL (zfp c)++txN l:=by rw[txN,List.flatMap_cons];rfl
  rw[e,zAa] at h
  obtain⟨f,rfl⟩:∃ g,f=g+1:=⟨f-1,by omega⟩
  have ih:=zro l f (by omega) (fun x hx=>hv x (by simp[hx]))
  have hd:=y2b (zf8 c) (txN l)
  rw[e]
  cases hz:ecL (zfp c) with
  | nil=>exact absurd hz (y48 _)
  | cons b r =>
   rw[hz] at hd
   have e2:(b::r)++txN l=b::(r++txN l):=rfl
   rw[e2] at hd ⊢
   rw[unL,hd]
   simp only
   rw[← e2,List.drop_left,ih,zum,zE,hz,ztn hc]
theorem zsp {l:List Int} (hv:∀ c∈l,Utf8.valid c=true):rst (txE l) 0=mkU zE l:=by
 rw[zl3 _ (txE l).size 0 (by omega),List.drop_zero,z7e]
 exact zro l _ (by rw[← zb8,z7e];exact zAj _) hv
theorem y0l {l:List Int} (hv:∀ c∈l,Utf8.valid c=true):zc5 (txE l)=true:=by
 rw[zc5,zsp hv,mkU,List.all_map,List.all_eq_true]
 intro c _
 simp only[Function.comp,ztq]
 by_cases h:c=65533
 · subst h;decide
 · simp[h]
open Go Go.Ax
theorem zg1 {c:Int}:zfv c↔Utf8.valid c=true:=by rw[z4o,zfv];omega
def lsN:List Nat→List Nat→Bool
 | _,[]=>false
 | [],_::_=>true
 | a::x,b::y=>decide (a<b)||(decide (a=b)&&lsN x y)
theorem zxx:∀ x y:List UInt8,Op.bytesLess x y=lsN (x.map UInt8.toNat) (y.map UInt8.toNat)
 | [],[]=>rfl
 | _::_,[]=>rfl
 | [],_::_=>rfl
 | a::x,b::y=>by
  rw[Op.bytesLess,List.map_cons,List.map_cons,lsN,zxx x y]
  congr 2
  rw[Bool.eq_iff_iff]
  simp only[beq_iff_eq,zA3]
  exact⟨fun h=>congrArg _ h,fun h=>UInt8.toNat_inj.1 h⟩
theorem zxe:∀ (p x y:List Nat),lsN (p++x) (p++y)=lsN x y
 | [],x,y=>rfl
 | a::p,x,y=>by rw[List.cons_append,List.cons_append,lsN,zxe p,zAo (by omega),zAi rfl];rfl
theorem y69 {a b:Nat} (h:a<b) (hb:b≤1114111) (x y:List Nat):lsN (ecL a++x) (ecL b++y)=true:=by
 unfold ecL
 repeat' split
 all_goals simp only[List.cons_append,List.nil_append,lsN,zAu,zA7,zA3]
 all_goals omega
theorem zyd {c:Int} (h:zfv c):zfp c=c.toNat:=by rw[zfp,zAz (zg1.1 h)]
theorem zge (c:Int) (l:List Int):txN (c::l)=ecL (zfp c)++txN l:=by rw[txN,List.flatMap_cons];rfl
theorem zwy:∀ {u v:List Int},y2k u v→(∀ c∈u,zfv c)→(∀ c∈v,zfv c)→u.length=v.length→lsN (txN u) (txN v)=true∨txN u=txN v
 | [],[],_,_,_,_=>.inr rfl
 | [],_::_,_,_,_,h=>by cases h
 | _::_,[],h,_,_,_=>h.elim
 | a::u,b::v,h,hu,hv,hl=>by
  rw[zge,zge]
  have ha:=hu a (by simp)
  have hb:=hv b (by simp)
  rcases h with h|⟨rfl,h⟩
  · left
    rw[zyd ha,zyd hb]
    have ha':=ha.1
    have hb':=hb.2.1
    exact y69 (by omega) (by omega) _ _
  · rcases zwy h (fun c hc=>hu c (by simp[hc])) (fun c hc=>hv c (by simp[hc])) (by simpa using hl) with g|g
    · left;rw[zxe];exact g
    · right;rw[g]
theorem y28 {l:List Nat} (hl:l≠[]) (h:ztq ⟨((dcL l).1:Nat),(dcL l).2⟩=true):l=ecL (dcL l).1++l.drop (dcL l).2:=by
 cases l with
 | nil=>exact absurd rfl hl
 | cons b r =>
  change ztq ⟨((dc b r).1:Nat),(dc b r).2⟩=true at h
  show b::r=ecL (dc b r).1++(b::r).drop (dc b r).2
  have hd:=zmc b r
  generalize dc b r=q at hd h
  cases hd with
  | one h0=>simp only[ecL,zAz h0];rfl
  | two x r' hr hx hb h0 =>
   subst hr
   simp only[ecL]
   rw[zAy (by omega),zAz (by omega)]
   exact zD87
  | three x y r' hr hx hy hb h0 =>
   subst hr
   simp only[ecL]
   rw[zAy (by omega),zAy (by omega),zAz (by omega)]
   exact zD87
  | four x y z r' hr hx hy hz hb h0 =>
   subst hr
   simp only[ecL]
   rw[zAy (by omega),zAy (by omega),zAy (by omega)]
   exact zD87
  | bad h0=>simp[ztq] at h
theorem y2y:∀ (f:Nat) (l:List Nat),l.length≤f→(unL f l).all ztq=true→(∀ u∈unL f l,Utf8.valid u.r=true)→l=txN ((unL f l).map (·.r))
 | f,[],_,_,_=>by rw[zjm];rfl
 | 0,b::r,h,_,_=>by simp at h
 | f+1,b::r,h,ho,hv=>by
  have hw:=y6m (l:=b::r) (by simp)
  have hlen:(b::r).length=r.length+1:=rfl
  rw[unL] at ho hv ⊢
  rw[List.all_cons,zA7] at ho
  have ih:=y2y f ((b::r).drop (dcL (b::r)).2) (by rw[List.length_drop];omega) ho.2 (fun u hu=>hv u (by simp[hu]))
  rw[List.map_cons,zge,← ih]
  have e:=y28 (l:=b::r) (by simp) ho.1
  have hv0:=hv _ (List.mem_cons_self ..)
  have hf:=ztn hv0
  generalize dcL (b::r)=q at *
  simp only
  simp only at hf
  rw[show zfp ((q.1:Nat):Int)=q.1 by omega]
  exact e
theorem zv5 {s:ByteArray} (h:zc5 s=true):s=txE (z83 s):=zjk (by
 have hm:=zgw s (s.size-0) 0 (zAj _)
 rw[z7e,z83]
 rw[zc5] at h
 rw[zl3 s s.size 0 (by omega),List.drop_zero] at h hm ⊢
 exact y2y _ _ (by rw[zb8];exact zAj _) h hm)
theorem zwj {l:List Int} (hv:∀ c∈l,zfv c):z83 (txE l)=l∧zc5 (txE l)=true:=by
 have hv':∀ c∈l,Utf8.valid c=true:=fun c hc=>zg1.1 (hv c hc)
 refine⟨?_,y0l hv'⟩
 rw[z83,zsp hv',mkU,List.map_map]
 exact List.map_id l
theorem z8x {s:ByteArray}:∀ c∈z83 s,zfv c:=fun c hc=>by
 rw[z83,List.mem_map] at hc
 obtain⟨u,hu,rfl⟩:=hc
 exact zg1.2 (zgw s _ 0 (zAj _) u hu)
theorem zzq {s t:ByteArray} {u v:List Int} (hs:s=txE u) (ht:t=txE v) (h:y2k u v) (hu:∀ c∈u,zfv c) (hv:∀ c∈v,zfv c) (hl:u.length=v.length):(Op.bytesLess s.toList t.toList||decide (s=t))=true:=by
 rw[zAu,zA3]
 subst hs ht
 rcases zwy h hu hv hl with g|g
 · left
   rw[zxx]
   have e:∀ l:List Int,(txE l).toList.map UInt8.toNat=txN l:=fun l=>by
    have:=z7e l
    rw[btN] at this
    rw[ByteArray.toList_eq]
    exact this
   rw[e,e];exact g
 · right;exact zyq g
end Go.Rx
