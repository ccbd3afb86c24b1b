/- A part of the proof: RX23 to AX22. -/
import Derived.Test.YtmcggompdmngmaaGreatDoorYx
import Derived.Test.YtmcggompdmngmaaGreatDoorYy
set_option linter.all false
namespace Go.Rx
open Go
def txN (l:List Int):List Nat:=l.flatMap fun c=>ecL (zab c)
def txE (l:List Int):ByteArray:=y4l (txN l)
theorem y9v (c:Int):∀ x∈ecL (zab c),x<256:=by
 rw[← z6l];exact y06 _
theorem zaw (l:List Int):btN (txE l)=txN l:=zmp fun x hx=>by
 rw[txN,List.mem_flatMap] at hx
 obtain⟨c,_,hx⟩:=hx
 exact y9v c x hx
theorem ztp (k:Nat):1≤(ecL k).length∧(ecL k).length≤4:=by
 unfold ecL;repeat' split
 all_goals simp
def zE (c:Int):Nat:=(ecL (zab c)).length
theorem zsg:∀ (l:List Int) (f:Nat),(txN l).length≤f→(∀ c∈l,Utf8.valid c=true)→unL f (txN l)=mkU zE l
 | [],f,_,_=>by rw[show txN []=[] from rfl,zgh];rfl
 | c::l,f,h,hv=>by
  have hc:=hv c (by simp)
  have hl:=ztp (zab c)
  have e:txN (c::l)=ecL (zab c)++txN l:=by rw[txN,List.flatMap_cons];rfl
  rw[e,zAa] at h
  obtain⟨f,rfl⟩:∃ g,f=g+1:=⟨f-1,by omega⟩
  have ih:=zsg l f (by omega) (fun x hx=>hv x (by simp[hx]))
  have hd:=zj7 (z4s c) (txN l)
  rw[e]
  cases hz:ecL (zab c) with
  | nil=>exact absurd hz (znt _)
  | cons b r =>
   rw[hz] at hd
   have e2:(b::r)++txN l=b::(r++txN l):=rfl
   rw[e2] at hd ⊢
   rw[unL,hd]
   simp only
   rw[← e2,List.drop_left,ih,zw7,zE,hz,z6z hc]
theorem y21 {l:List Int} (hv:∀ c∈l,Utf8.valid c=true):rst (txE l) 0=mkU zE l:=by
 rw[zh7 _ (txE l).size 0 (by omega),List.drop_zero,zaw]
 exact zsg l _ (by rw[← z3q,zaw];exact zAj _) hv
theorem zjg:∀ (l:List (Int × Int)) (a:Int),a≤1114113→z7l a l=true→2*(l.length:Int)≤1114113-a
 | [],a,ha,_=>by simp;omega
 | r::l,a,ha,h=>by
  rw[z7l,zA7,zA7,zA7,zA3,zA3,zA3] at h
  obtain⟨⟨⟨h1,h2⟩,h3⟩,h4⟩:=h
  have ih:=zjg l (r.2+2) (by omega) h4
  rw[zAk];omega
theorem zxq {l:List (Int × Int)} (h:zgc l=true):l.length≤557056:=by
 rw[zgc,zA7] at h
 have:=zjg l 0 (by decide) h.1
 omega
open Go Go.Ax
theorem zc8 {c:Int}:y9f c↔Utf8.valid c=true:=by rw[z30,y9f];omega
def lsN:List Nat→List Nat→Bool
 | _,[]=>false
 | [],_::_=>true
 | a::x,b::y=>decide (a<b)||(decide (a=b)&&lsN x y)
theorem y0s:∀ x y:List UInt8,Op.bytesLess x y=lsN (x.map UInt8.toNat) (y.map UInt8.toNat)
 | [],[]=>rfl
 | _::_,[]=>rfl
 | [],_::_=>rfl
 | a::x,b::y=>by
  rw[Op.bytesLess,List.map_cons,List.map_cons,lsN,y0s x y]
  congr 2
  rw[Bool.eq_iff_iff]
  simp only[beq_iff_eq,zA3]
  exact⟨fun h=>congrArg _ h,fun h=>UInt8.toNat_inj.1 h⟩
theorem zbu (c:Int) (l:List Int):txN (c::l)=ecL (zab c)++txN l:=by rw[txN,List.flatMap_cons];rfl
theorem y9n {l:List Nat} (hl:l≠[]) (h:zsi ⟨((dcL l).1:Nat),(dcL l).2⟩=true):l=ecL (dcL l).1++l.drop (dcL l).2:=by
 cases l with
 | nil=>exact absurd rfl hl
 | cons b r =>
  change zsi ⟨((dc b r).1:Nat),(dc b r).2⟩=true at h
  show b::r=ecL (dc b r).1++(b::r).drop (dc b r).2
  have hd:=zln b r
  generalize dc b r=q at hd h
  cases hd with
  | one h0=>simp only[ecL,zAz h0];rfl
  | two x r' hr hx hb h0 =>
   subst hr
   simp only[ecL]
   rw[zAy (by omega),zAz (by omega)]
   exact zD89
  | three x y r' hr hx hy hb h0 =>
   subst hr
   simp only[ecL]
   rw[zAy (by omega),zAy (by omega),zAz (by omega)]
   exact zD89
  | four x y z r' hr hx hy hz hb h0 =>
   subst hr
   simp only[ecL]
   rw[zAy (by omega),zAy (by omega),zAy (by omega)]
   exact zD89
  | bad h0=>simp[zsi] at h
theorem y7c:∀ (f:Nat) (l:List Nat),l.length≤f→(unL f l).all zsi=true→(∀ u∈unL f l,Utf8.valid u.r=true)→l=txN ((unL f l).map (·.r))
 | f,[],_,_,_=>by rw[zgh];rfl
 | 0,b::r,h,_,_=>by simp at h
 | f+1,b::r,h,ho,hv=>by
  have hw:=zv7 (l:=b::r) (by simp)
  have hlen:(b::r).length=r.length+1:=rfl
  rw[unL] at ho hv ⊢
  rw[List.all_cons,zA7] at ho
  have ih:=y7c f ((b::r).drop (dcL (b::r)).2) (by rw[List.length_drop];omega) ho.2 (fun u hu=>hv u (by simp[hu]))
  rw[List.map_cons,zbu,← ih]
  have e:=y9n (l:=b::r) (by simp) ho.1
  have hv0:=hv _ (List.mem_cons_self ..)
  have hf:=z6z hv0
  generalize dcL (b::r)=q at *
  simp only
  simp only at hf
  rw[show zab ((q.1:Nat):Int)=q.1 by omega]
  exact e
theorem zc1 {s:ByteArray} (h:zbi s=true):s=txE (z2x s):=zgm (by
 have hm:=zge s (s.size-0) 0 (zAj _)
 rw[zaw,z2x]
 rw[zbi] at h
 rw[zh7 s s.size 0 (by omega),List.drop_zero] at h hm ⊢
 exact y7c _ _ (by rw[z3q];exact zAj _) h hm)
theorem zad {s:ByteArray}:∀ c∈z2x s,y9f c:=fun c hc=>by
 rw[z2x,List.mem_map] at hc
 obtain⟨u,hu,rfl⟩:=hc
 exact zc8.2 (zge s _ 0 (zAj _) u hu)
end Go.Rx
