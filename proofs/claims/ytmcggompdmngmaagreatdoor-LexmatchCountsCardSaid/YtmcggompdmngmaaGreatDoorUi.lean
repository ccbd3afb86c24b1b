/- A part of the proof: RX23 to AX22. -/
import Derived.Test.YtmcggompdmngmaaGreatDoorUx
import Derived.Test.YtmcggompdmngmaaGreatDoorUy
set_option linter.all false
namespace Go.Rx
open Go
def txN (l:List Int):List Nat:=l.flatMap fun c=>ecL (zaj c)
def txE (l:List Int):ByteArray:=y1a (txN l)
theorem y7q (c:Int):∀ x∈ecL (zaj c),x<256:=by
 rw[← z6s];exact y0y _
theorem zaq (l:List Int):btN (txE l)=txN l:=zm8 fun x hx=>by
 rw[txN,List.mem_flatMap] at hx
 obtain⟨c,_,hx⟩:=hx
 exact y7q c x hx
theorem ztb (k:Nat):1≤(ecL k).length∧(ecL k).length≤4:=by
 unfold ecL;repeat' split
 all_goals simp
def zE (c:Int):Nat:=(ecL (zaj c)).length
theorem zr1:∀ (l:List Int) (f:Nat),(txN l).length≤f→(∀ c∈l,Utf8.valid c=true)→unL f (txN l)=mkU zE l
 | [],f,_,_=>by rw[show txN []=[] from rfl,zgl];rfl
 | c::l,f,h,hv=>by
  have hc:=hv c (by simp)
  have hl:=ztb (zaj c)
  have e:txN (c::l)=ecL (zaj c)++txN l:=by rw[txN,List.flatMap_cons];rfl
  rw[e,zAa] at h
  obtain⟨f,rfl⟩:∃ g,f=g+1:=⟨f-1,by omega⟩
  have ih:=zr1 l f (by omega) (fun x hx=>hv x (by simp[hx]))
  have hd:=zi8 (z5b c) (txN l)
  rw[e]
  cases hz:ecL (zaj c) with
  | nil=>exact absurd hz (zm2 _)
  | cons b r =>
   rw[hz] at hd
   have e2:(b::r)++txN l=b::(r++txN l):=rfl
   rw[e2] at hd ⊢
   rw[unL,hd]
   simp only
   rw[← e2,List.drop_left,ih,zyt,zE,hz,z7d hc]
theorem y25 {l:List Int} (hv:∀ c∈l,Utf8.valid c=true):rst (txE l) 0=mkU zE l:=by
 rw[zhc _ (txE l).size 0 (by omega),List.drop_zero,zaq]
 exact zr1 l _ (by rw[← z3p,zaq];exact zAj _) hv
theorem zhx:∀ (l:List (Int × Int)) (a:Int),a≤1114113→z9l a l=true→2*(l.length:Int)≤1114113-a
 | [],a,ha,_=>by simp;omega
 | r::l,a,ha,h=>by
  rw[z9l,zA7,zA7,zA7,zA3,zA3,zA3] at h
  obtain⟨⟨⟨h1,h2⟩,h3⟩,h4⟩:=h
  have ih:=zhx l (r.2+2) (by omega) h4
  rw[zAk];omega
theorem zy2 {l:List (Int × Int)} (h:zl4 l=true):l.length≤557056:=by
 rw[zl4,zA7] at h
 have:=zhx l 0 (by decide) h.1
 omega
open Go Go.Ax
theorem zci {c:Int}:y2m c↔Utf8.valid c=true:=by rw[z3l,y2m];omega
def lsN:List Nat→List Nat→Bool
 | _,[]=>false
 | [],_::_=>true
 | a::x,b::y=>decide (a<b)||(decide (a=b)&&lsN x y)
theorem y0o:∀ x y:List UInt8,Op.bytesLess x y=lsN (x.map UInt8.toNat) (y.map UInt8.toNat)
 | [],[]=>rfl
 | _::_,[]=>rfl
 | [],_::_=>rfl
 | a::x,b::y=>by
  rw[Op.bytesLess,List.map_cons,List.map_cons,lsN,y0o x y]
  congr 2
  rw[Bool.eq_iff_iff]
  simp only[beq_iff_eq,zA3]
  exact⟨fun h=>congrArg _ h,fun h=>UInt8.toNat_inj.1 h⟩
theorem z57 (c:Int) (l:List Int):txN (c::l)=ecL (zaj c)++txN l:=by rw[txN,List.flatMap_cons];rfl
theorem y5g {l:List Nat} (hl:l≠[]) (h:zt5 ⟨((dcL l).1:Nat),(dcL l).2⟩=true):l=ecL (dcL l).1++l.drop (dcL l).2:=by
 cases l with
 | nil=>exact absurd rfl hl
 | cons b r =>
  change zt5 ⟨((dc b r).1:Nat),(dc b r).2⟩=true at h
  show b::r=ecL (dc b r).1++(b::r).drop (dc b r).2
  have hd:=zo8 b r
  generalize dc b r=q at hd h
  cases hd with
  | one h0=>simp only[ecL,zAz h0];rfl
  | two x r' hr hx hb h0 =>
   subst hr
   simp only[ecL]
   rw[zAy (by omega),zAz (by omega)]
   exact zD118
  | three x y r' hr hx hy hb h0 =>
   subst hr
   simp only[ecL]
   rw[zAy (by omega),zAy (by omega),zAz (by omega)]
   exact zD118
  | four x y z r' hr hx hy hz hb h0 =>
   subst hr
   simp only[ecL]
   rw[zAy (by omega),zAy (by omega),zAy (by omega)]
   exact zD118
  | bad h0=>simp[zt5] at h
theorem y7y:∀ (f:Nat) (l:List Nat),l.length≤f→(unL f l).all zt5=true→(∀ u∈unL f l,Utf8.valid u.r=true)→l=txN ((unL f l).map (·.r))
 | f,[],_,_,_=>by rw[zgl];rfl
 | 0,b::r,h,_,_=>by simp at h
 | f+1,b::r,h,ho,hv=>by
  have hw:=zym (l:=b::r) (by simp)
  have hlen:(b::r).length=r.length+1:=rfl
  rw[unL] at ho hv ⊢
  rw[List.all_cons,zA7] at ho
  have ih:=y7y f ((b::r).drop (dcL (b::r)).2) (by rw[List.length_drop];omega) ho.2 (fun u hu=>hv u (by simp[hu]))
  rw[List.map_cons,z57,← ih]
  have e:=y5g (l:=b::r) (by simp) ho.1
  have hv0:=hv _ (List.mem_cons_self ..)
  have hf:=z7d hv0
  generalize dcL (b::r)=q at *
  simp only
  simp only at hf
  rw[show zaj ((q.1:Nat):Int)=q.1 by omega]
  exact e
theorem zcg {s:ByteArray} (h:z8q s=true):s=txE (z2i s):=zb4 (by
 have hm:=zld s (s.size-0) 0 (zAj _)
 rw[zaq,z2i]
 rw[z8q] at h
 rw[zhc s s.size 0 (by omega),List.drop_zero] at h hm ⊢
 exact y7y _ _ (by rw[z3p];exact zAj _) h hm)
theorem z6b {s:ByteArray}:∀ c∈z2i s,y2m c:=fun c hc=>by
 rw[z2i,List.mem_map] at hc
 obtain⟨u,hu,rfl⟩:=hc
 exact zci.2 (zld s _ 0 (zAj _) u hu)
end Go.Rx
