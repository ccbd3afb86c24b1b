/- A part of the proof: RX23 to RX23. -/
import Derived.Test.YthdfkabdoidjfaaGreatDoorUx
set_option linter.all false
namespace Go.Rx
open Go
def txN (l:List Int):List Nat:=l.flatMap fun c=>ecL (zvy c)
def txE (l:List Int):ByteArray:=y5b (txN l)
theorem y5k (c:Int):∀ x∈ecL (zvy c),x<256:=by
 rw[← zqs];exact y5z _
theorem zd9 (l:List Int):btN (txE l)=txN l:=ztm fun x hx=>by
 rw[txN,List.mem_flatMap] at hx
 obtain⟨c,_,hx⟩:=hx
 exact y5k c x hx
theorem y0v (s t:ByteArray):btN (s++t)=btN s++btN t:=by
 rw[btN,btN,btN,ByteArray.data_append,Array.toList_append,List.map_append]
theorem y0q (a b:List Int):txE (a++b)=txE a++txE b:=zql (by
 rw[y0v,zd9,zd9,zd9,txN,List.flatMap_append];rfl)
theorem zpj:txE []=ByteArray.empty:=rfl
theorem zox (c:Int):txE [c]=Utf8.encode c:=zql (by rw[zd9,zqs,txN];simp)
theorem y02 (k:Nat):1≤(ecL k).length∧(ecL k).length≤4:=by
 unfold ecL;repeat' split
 all_goals simp
theorem zqe:∀ l:List Int,l.length≤(txN l).length∧(txN l).length≤4*l.length
 | []=>by simp[txN]
 | c::l=>by
  have ih:=zqe l
  have:=y02 (zvy c)
  have e:txN (c::l)=ecL (zvy c)++txN l:=by rw[txN,List.flatMap_cons];rfl
  rw[e,zAa,zAk];omega
theorem zus (l:List Int):l.length≤(txE l).size∧(txE l).size≤4*l.length:=by
 rw[← y24,zd9];exact zqe l
end Go.Rx
