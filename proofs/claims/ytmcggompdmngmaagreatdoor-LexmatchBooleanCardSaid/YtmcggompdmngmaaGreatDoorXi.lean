/- A part. -/
import Derived.Test.YtmcggompdmngmaaGreatDoorXx
import Derived.Test.YtmcggompdmngmaaGreatDoorXy
set_option linter.all false
namespace Go.Rx
open Go
def txN(l:List Int):List Nat:=l.flatMap fun c=>ecL (zbl c)
def txE(l:List Int):ByteArray:=y6d (txN l)
theorem y94(c:Int):∀x∈ecL (zbl c),x<256:=by
 rw[←z6o];exact y2o _
theorem zb5(l:List Int):btN (txE l)=txN l:=zmz fun x hx=>by
 rw[txN,List.mem_flatMap]at hx
 obtain⟨c,_,hx⟩:=hx
 exact y94 c x hx
theorem zwe(k:Nat):1≤(ecL k).length∧(ecL k).length≤4:=by
 unfold ecL;repeat' split
 all_goals simp
def zE(c:Int):Nat:=(ecL (zbl c)).length
theorem zvf:∀(l:List Int) (f:Nat),(txN l).length≤f→(∀c∈l,Utf8.valid c=true)→unL f (txN l)=mkU zE l
 | [],f,_,_=>by rw[show txN []=[]from rfl,zhv];rfl
 | c::l,f,h,hv=>by
  have hc:=hv c (by simp)
  have hl:=zwe (zbl c)
  have e:txN (c::l)=ecL (zbl c)++txN l:=by rw[txN,List.flatMap_cons];rfl
  rw[e,zAa]at h
  obtain⟨f,rfl⟩:∃g,f=g+1:=⟨f-1,by omega⟩
  have ih:=zvf l f (by omega) fun x hx=>hv x (by simp[hx])
  have hd:=zjn (z5h c) (txN l)
  rw[e]
  cases hz:ecL (zbl c)with
  | nil=>exact absurd hz (zmx _)
  | cons b r =>
   rw[hz]at hd
   have e2:(b::r)++txN l=b::(r++txN l):=rfl
   rw[e2]at hd⊢
   rw[unL,hd]
   simp only
   rw[←e2,List.drop_left,ih,zz8,zE,hz,z81 hc]
theorem y3o{l:List Int}(hv:∀c∈l,Utf8.valid c=true):rst (txE l) 0=mkU zE l:=by
 rw[zhz _ (txE l).size 0 (by omega),List.drop_zero,zb5]
 exact zvf l _ (by rw[←z3r,zb5];exact zAj _) hv
theorem zjc:∀(l:List (Int × Int)) (a:Int),a≤1114113→z9z a l=true→2*(l.length:Int)≤1114113-a
 | [],a,ha,_=>by simp;omega
 | r::l,a,ha,h=>by
  rw[z9z,zA7,zA7,zA7,zA3,zA3,zA3]at h
  obtain⟨⟨⟨h1,h2⟩,h3⟩,h4⟩:=h
  have ih:=zjc l (r.2+2) (by omega) h4
  rw[zAk];omega
theorem zya{l:List (Int × Int)}(h:zly l=true):l.length≤557056:=by
 rw[zly,zA7]at h
 have:=zjc l 0 (by decide) h.1
 omega
open Go Go.Ax
theorem zch{c:Int}:y8d c↔Utf8.valid c=true:=by rw[z3b,y8d];omega
def lsN:List Nat→List Nat→Bool
 | _,[]=>false
 | [],_::_=>true
 | a::x,b::y=>decide (a<b)||(decide (a=b)&&lsN x y)
theorem y1f:∀x y:List UInt8,Op.bytesLess x y=lsN (x.map UInt8.toNat) (y.map UInt8.toNat)
 | [],[]=>rfl
 | _::_,[]=>rfl
 | [],_::_=>rfl
 | a::x,b::y=>by
  rw[Op.bytesLess,List.map_cons,List.map_cons,lsN,y1f x y]
  congr 2
  rw[Bool.eq_iff_iff]
  simp only[beq_iff_eq,zA3]
  exact⟨fun h=>congrArg _ h,fun h=>UInt8.toNat_inj.1 h⟩
theorem zcr(c:Int)(l:List Int):txN (c::l)=ecL (zbl c)++txN l:=by rw[txN,List.flatMap_cons];rfl
theorem y9q{l:List Nat}(hl:l≠[])(h:zuk ⟨((dcL l).1:Nat),(dcL l).2⟩=true):l=ecL (dcL l).1++l.drop (dcL l).2:=by
 cases l with
 | nil=>exact absurd rfl hl
 | cons b r =>
  change zuk ⟨((dc b r).1:Nat),(dc b r).2⟩=true at h
  show b::r=ecL (dc b r).1++(b::r).drop (dc b r).2
  have hd:=zn9 b r
  generalize dc b r=q at hd h
  cases hd with
  | one h0=>simp only[ecL,zAz h0];rfl
  | two x r' hr hx hb h0 =>
   subst hr
   simp only[ecL]
   rw[zAy (by omega),zAz (by omega)]
   exact zD92
  | three x y r' hr hx hy hb h0 =>
   subst hr
   simp only[ecL]
   rw[zAy (by omega),zAy (by omega),zAz (by omega)]
   exact zD92
  | four x y z r' hr hx hy hz hb h0 =>
   subst hr
   simp only[ecL]
   rw[zAy (by omega),zAy (by omega),zAy (by omega)]
   exact zD92
  | bad h0=>simp[zuk]at h
theorem y7r:∀(f:Nat) (l:List Nat),l.length≤f→(unL f l).all zuk=true→(∀u∈unL f l,Utf8.valid u.r=true)→l=txN ((unL f l).map (·.r))
 | f,[],_,_,_=>by rw[zhv];rfl
 | 0,b::r,h,_,_=>by simp at h
 | f+1,b::r,h,ho,hv=>by
  have hw:=y03 (l:=b::r) (by simp)
  have hlen:(b::r).length=r.length+1:=rfl
  rw[unL]at ho hv⊢
  rw[List.all_cons,zA7]at ho
  have ih:=y7r f ((b::r).drop (dcL (b::r)).2) (by rw[List.length_drop];omega) ho.2 fun u hu=>hv u (by simp[hu])
  rw[List.map_cons,zcr,←ih]
  have e:=y9q (l:=b::r) (by simp) ho.1
  have hv0:=hv _ (List.mem_cons_self ..)
  have hf:=z81 hv0
  generalize dcL (b::r)=q at *
  simp only
  simp only at hf
  rw[show zbl ((q.1:Nat):Int)=q.1 by omega]
  exact e
theorem zct{s:ByteArray}(h:zcs s=true):s=txE (z30 s):=zgb (by
 have hm:=zgt s (s.size-0) 0 (zAj _)
 rw[zb5,z30]
 rw[zcs]at h
 rw[zhz s s.size 0 (by omega),List.drop_zero]at h hm⊢
 exact y7r _ _ (by rw[z3r];exact zAj _) h hm)
theorem zb4{s:ByteArray}:∀c∈z30 s,y8d c:=fun c hc=>by
 rw[z30,List.mem_map]at hc
 obtain⟨u,hu,rfl⟩:=hc
 exact zch.2 (zgt s _ 0 (zAj _) u hu)
end Go.Rx
