/- A part of the proof: RX23 to AX22. -/
import Derived.Test.YtmcggompdmngmaaGreatDoorWx
import Derived.Test.YtmcggompdmngmaaGreatDoorWy
set_option linter.all false
namespace Go.Rx
open Go
def txN (l:List Int):List Nat:=l.flatMap fun c=>ecL (zah c)
def txE (l:List Int):ByteArray:=y3s (txN l)
theorem y7j (c:Int):∀ x∈ecL (zah c),x<256:=by
 rw[← z6s];exact zzx _
theorem zb9 (l:List Int):btN (txE l)=txN l:=zlr fun x hx=>by
 rw[txN,List.mem_flatMap] at hx
 obtain⟨c,_,hx⟩:=hx
 exact y7j c x hx
theorem zqc (k:Nat):1≤(ecL k).length∧(ecL k).length≤4:=by
 unfold ecL;repeat' split
 all_goals simp
def zE (c:Int):Nat:=(ecL (zah c)).length
theorem zsc:∀ (l:List Int) (f:Nat),(txN l).length≤f→(∀ c∈l,Utf8.valid c=true)→unL f (txN l)=mkU zE l
 | [],f,_,_=>by rw[show txN []=[] from rfl,zga];rfl
 | c::l,f,h,hv=>by
  have hc:=hv c (by simp)
  have hl:=zqc (zah c)
  have e:txN (c::l)=ecL (zah c)++txN l:=by rw[txN,List.flatMap_cons];rfl
  rw[e,zAa] at h
  obtain⟨f,rfl⟩:∃ g,f=g+1:=⟨f-1,by omega⟩
  have ih:=zsc l f (by omega) (fun x hx=>hv x (by simp[hx]))
  have hd:=zje (z4x c) (txN l)
  rw[e]
  cases hz:ecL (zah c) with
  | nil=>exact absurd hz (zlz _)
  | cons b r =>
   rw[hz] at hd
   have e2:(b::r)++txN l=b::(r++txN l):=rfl
   rw[e2] at hd ⊢
   rw[unL,hd]
   simp only
   rw[← e2,List.drop_left,ih,zxr,zE,hz,z7d hc]
theorem y2w {l:List Int} (hv:∀ c∈l,Utf8.valid c=true):rst (txE l) 0=mkU zE l:=by
 rw[zha _ (txE l).size 0 (by omega),List.drop_zero,zb9]
 exact zsc l _ (by rw[← z3t,zb9];exact zAj _) hv
theorem zjj:∀ (l:List (Int × Int)) (a:Int),a≤1114113→z7o a l=true→2*(l.length:Int)≤1114113-a
 | [],a,ha,_=>by simp;omega
 | r::l,a,ha,h=>by
  rw[z7o,zA7,zA7,zA7,zA3,zA3,zA3] at h
  obtain⟨⟨⟨h1,h2⟩,h3⟩,h4⟩:=h
  have ih:=zjj l (r.2+2) (by omega) h4
  rw[zAk];omega
theorem zwf {l:List (Int × Int)} (h:zhm l=true):l.length≤557056:=by
 rw[zhm,zA7] at h
 have:=zjj l 0 (by decide) h.1
 omega
open Go Go.Ax
theorem zbz {c:Int}:y7d c↔Utf8.valid c=true:=by rw[z36,y7d];omega
def lsN:List Nat→List Nat→Bool
 | _,[]=>false
 | [],_::_=>true
 | a::x,b::y=>decide (a<b)||(decide (a=b)&&lsN x y)
theorem zzb:∀ x y:List UInt8,Op.bytesLess x y=lsN (x.map UInt8.toNat) (y.map UInt8.toNat)
 | [],[]=>rfl
 | _::_,[]=>rfl
 | [],_::_=>rfl
 | a::x,b::y=>by
  rw[Op.bytesLess,List.map_cons,List.map_cons,lsN,zzb x y]
  congr 2
  rw[Bool.eq_iff_iff]
  simp only[beq_iff_eq,zA3]
  exact⟨fun h=>congrArg _ h,fun h=>UInt8.toNat_inj.1 h⟩
theorem zcd (c:Int) (l:List Int):txN (c::l)=ecL (zah c)++txN l:=by rw[txN,List.flatMap_cons];rfl
theorem y76 {l:List Nat} (hl:l≠[]) (h:zrd ⟨((dcL l).1:Nat),(dcL l).2⟩=true):l=ecL (dcL l).1++l.drop (dcL l).2:=by
 cases l with
 | nil=>exact absurd rfl hl
 | cons b r =>
  change zrd ⟨((dc b r).1:Nat),(dc b r).2⟩=true at h
  show b::r=ecL (dc b r).1++(b::r).drop (dc b r).2
  have hd:=znz b r
  generalize dc b r=q at hd h
  cases hd with
  | one h0=>simp only[ecL,zAz h0];rfl
  | two x r' hr hx hb h0 =>
   subst hr
   simp only[ecL]
   rw[zAy (by omega),zAz (by omega)]
   exact zD104
  | three x y r' hr hx hy hb h0 =>
   subst hr
   simp only[ecL]
   rw[zAy (by omega),zAy (by omega),zAz (by omega)]
   exact zD104
  | four x y z r' hr hx hy hz hb h0 =>
   subst hr
   simp only[ecL]
   rw[zAy (by omega),zAy (by omega),zAy (by omega)]
   exact zD104
  | bad h0=>simp[zrd] at h
theorem y5m:∀ (f:Nat) (l:List Nat),l.length≤f→(unL f l).all zrd=true→(∀ u∈unL f l,Utf8.valid u.r=true)→l=txN ((unL f l).map (·.r))
 | f,[],_,_,_=>by rw[zga];rfl
 | 0,b::r,h,_,_=>by simp at h
 | f+1,b::r,h,ho,hv=>by
  have hw:=zv8 (l:=b::r) (by simp)
  have hlen:(b::r).length=r.length+1:=rfl
  rw[unL] at ho hv ⊢
  rw[List.all_cons,zA7] at ho
  have ih:=y5m f ((b::r).drop (dcL (b::r)).2) (by rw[List.length_drop];omega) ho.2 (fun u hu=>hv u (by simp[hu]))
  rw[List.map_cons,zcd,← ih]
  have e:=y76 (l:=b::r) (by simp) ho.1
  have hv0:=hv _ (List.mem_cons_self ..)
  have hf:=z7d hv0
  generalize dcL (b::r)=q at *
  simp only
  simp only at hf
  rw[show zah ((q.1:Nat):Int)=q.1 by omega]
  exact e
theorem zcg {s:ByteArray} (h:zbo s=true):s=txE (z3l s):=zh1 (by
 have hm:=zcn s (s.size-0) 0 (zAj _)
 rw[zb9,z3l]
 rw[zbo] at h
 rw[zha s s.size 0 (by omega),List.drop_zero] at h hm ⊢
 exact y5m _ _ (by rw[z3t];exact zAj _) h hm)
theorem zb2 {s:ByteArray}:∀ c∈z3l s,y7d c:=fun c hc=>by
 rw[z3l,List.mem_map] at hc
 obtain⟨u,hu,rfl⟩:=hc
 exact zbz.2 (zcn s _ 0 (zAj _) u hu)
end Go.Rx
