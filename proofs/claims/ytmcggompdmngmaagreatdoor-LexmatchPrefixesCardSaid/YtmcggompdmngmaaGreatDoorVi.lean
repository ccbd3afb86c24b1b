/- A part of the proof: RX20 to AX22. -/
import Derived.Test.YtmcggompdmngmaaGreatDoorVx
import Derived.Test.YtmcggompdmngmaaGreatDoorVy
set_option linter.all false
namespace Go.Rx
theorem y1k (vs:Int→List Int) (e:Rx) (s:ByteArray):mtS vs e s=true↔val e=0∧z71 s=true∧mt (okV vs) e (z29 s)=true:=by
 rw[mtS,zA7,zA7,zA3,and_assoc]
open Go
def txN (l:List Int):List Nat:=l.flatMap fun c=>ecL (zaz c)
def txE (l:List Int):ByteArray:=y37 (txN l)
theorem y5k (c:Int):∀ x∈ecL (zaz c),x<256:=by
 rw[← z5o];exact zyd _
theorem z8l (l:List Int):btN (txE l)=txN l:=zkr fun x hx=>by
 rw[txN,List.mem_flatMap] at hx
 obtain⟨c,_,hx⟩:=hx
 exact y5k c x hx
theorem y1g (s t:ByteArray):btN (s++t)=btN s++btN t:=by
 rw[btN,btN,btN,ByteArray.data_append,Array.toList_append,List.map_append]
theorem zr5 (k:Nat):1≤(ecL k).length∧(ecL k).length≤4:=by
 unfold ecL;repeat' split
 all_goals simp
def zE (c:Int):Nat:=(ecL (zaz c)).length
theorem zqd:∀ (l:List Int) (f:Nat),(txN l).length≤f→(∀ c∈l,Utf8.valid c=true)→unL f (txN l)=mkU zE l
 | [],f,_,_=>by rw[show txN []=[] from rfl,zgl];rfl
 | c::l,f,h,hv=>by
  have hc:=hv c (by simp)
  have hl:=zr5 (zaz c)
  have e:txN (c::l)=ecL (zaz c)++txN l:=by rw[txN,List.flatMap_cons];rfl
  rw[e,zAa] at h
  obtain⟨f,rfl⟩:∃ g,f=g+1:=⟨f-1,by omega⟩
  have ih:=zqd l f (by omega) (fun x hx=>hv x (by simp[hx]))
  have hd:=zhv (z4z c) (txN l)
  rw[e]
  cases hz:ecL (zaz c) with
  | nil=>exact absurd hz (zlk _)
  | cons b r =>
   rw[hz] at hd
   have e2:(b::r)++txN l=b::(r++txN l):=rfl
   rw[e2] at hd ⊢
   rw[unL,hd]
   simp only
   rw[← e2,List.drop_left,ih,zwu,zE,hz,z7f hc]
theorem zj1 {l:List Int} (hv:∀ c∈l,Utf8.valid c=true):rst (txE l) 0=mkU zE l:=by
 rw[zgb _ (txE l).size 0 (by omega),List.drop_zero,z8l]
 exact zqd l _ (by rw[← z3v,z8l];exact zAj _) hv
theorem y0j {l:List Int} (hv:∀ c∈l,Utf8.valid c=true):z71 (txE l)=true:=by
 rw[z71,zj1 hv,mkU,List.all_map,List.all_eq_true]
 intro c _
 simp only[Function.comp,zof]
 by_cases h:c=65533
 · subst h;decide
 · simp[h]
theorem zh7:∀ (l:List (Int × Int)) (a:Int),a≤1114113→z8j a l=true→2*(l.length:Int)≤1114113-a
 | [],a,ha,_=>by simp;omega
 | r::l,a,ha,h=>by
  rw[z8j,zA7,zA7,zA7,zA3,zA3,zA3] at h
  obtain⟨⟨⟨h1,h2⟩,h3⟩,h4⟩:=h
  have ih:=zh7 l (r.2+2) (by omega) h4
  rw[zAk];omega
theorem zvb {l:List (Int × Int)} (h:zit l=true):l.length≤557056:=by
 rw[zit,zA7] at h
 have:=zh7 l 0 (by decide) h.1
 omega
open Go Go.Ax
theorem z9p {c:Int}:y3k c↔Utf8.valid c=true:=by rw[z3k,y3k];omega
def lsN:List Nat→List Nat→Bool
 | _,[]=>false
 | [],_::_=>true
 | a::x,b::y=>decide (a<b)||(decide (a=b)&&lsN x y)
theorem zyw:∀ x y:List UInt8,Op.bytesLess x y=lsN (x.map UInt8.toNat) (y.map UInt8.toNat)
 | [],[]=>rfl
 | _::_,[]=>rfl
 | [],_::_=>rfl
 | a::x,b::y=>by
  rw[Op.bytesLess,List.map_cons,List.map_cons,lsN,zyw x y]
  congr 2
  rw[Bool.eq_iff_iff]
  simp only[beq_iff_eq,zA3]
  exact⟨fun h=>congrArg _ h,fun h=>UInt8.toNat_inj.1 h⟩
theorem z9x (c:Int) (l:List Int):txN (c::l)=ecL (zaz c)++txN l:=by rw[txN,List.flatMap_cons];rfl
theorem y6t {l:List Nat} (hl:l≠[]) (h:zof ⟨((dcL l).1:Nat),(dcL l).2⟩=true):l=ecL (dcL l).1++l.drop (dcL l).2:=by
 cases l with
 | nil=>exact absurd rfl hl
 | cons b r =>
  change zof ⟨((dc b r).1:Nat),(dc b r).2⟩=true at h
  show b::r=ecL (dc b r).1++(b::r).drop (dc b r).2
  have hd:=zlc b r
  generalize dc b r=q at hd h
  cases hd with
  | one h0=>simp only[ecL,zAz h0];rfl
  | two x r' hr hx hb h0 =>
   subst hr
   simp only[ecL]
   rw[zAy (by omega),zAz (by omega)]
   exact zD97
  | three x y r' hr hx hy hb h0 =>
   subst hr
   simp only[ecL]
   rw[zAy (by omega),zAy (by omega),zAz (by omega)]
   exact zD97
  | four x y z r' hr hx hy hz hb h0 =>
   subst hr
   simp only[ecL]
   rw[zAy (by omega),zAy (by omega),zAy (by omega)]
   exact zD97
  | bad h0=>simp[zof] at h
theorem y5s:∀ (f:Nat) (l:List Nat),l.length≤f→(unL f l).all zof=true→(∀ u∈unL f l,Utf8.valid u.r=true)→l=txN ((unL f l).map (·.r))
 | f,[],_,_,_=>by rw[zgl];rfl
 | 0,b::r,h,_,_=>by simp at h
 | f+1,b::r,h,ho,hv=>by
  have hw:=zw2 (l:=b::r) (by simp)
  have hlen:(b::r).length=r.length+1:=rfl
  rw[unL] at ho hv ⊢
  rw[List.all_cons,zA7] at ho
  have ih:=y5s f ((b::r).drop (dcL (b::r)).2) (by rw[List.length_drop];omega) ho.2 (fun u hu=>hv u (by simp[hu]))
  rw[List.map_cons,z9x,← ih]
  have e:=y6t (l:=b::r) (by simp) ho.1
  have hv0:=hv _ (List.mem_cons_self ..)
  have hf:=z7f hv0
  generalize dcL (b::r)=q at *
  simp only
  simp only at hf
  rw[show zaz ((q.1:Nat):Int)=q.1 by omega]
  exact e
theorem z9v {s:ByteArray} (h:z71 s=true):s=txE (z29 s):=zc6 (by
 have hm:=zj5 s (s.size-0) 0 (zAj _)
 rw[z8l,z29]
 rw[z71] at h
 rw[zgb s s.size 0 (by omega),List.drop_zero] at h hm ⊢
 exact y5s _ _ (by rw[z3v];exact zAj _) h hm)
theorem zvv {l:List Int} (hv:∀ c∈l,y3k c):z29 (txE l)=l∧z71 (txE l)=true:=by
 have hv':∀ c∈l,Utf8.valid c=true:=fun c hc=>z9p.1 (hv c hc)
 refine⟨?_,y0j hv'⟩
 rw[z29,zj1 hv',mkU,List.map_map]
 exact List.map_id l
theorem z3w {s:ByteArray}:∀ c∈z29 s,y3k c:=fun c hc=>by
 rw[z29,List.mem_map] at hc
 obtain⟨u,hu,rfl⟩:=hc
 exact z9p.2 (zj5 s _ 0 (zAj _) u hu)
end Go.Rx
