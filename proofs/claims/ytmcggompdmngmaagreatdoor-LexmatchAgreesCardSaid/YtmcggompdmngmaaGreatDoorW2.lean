/- A part of the proof: A11 to A12. -/
import Derived.Test.YtmcggompdmngmaaGreatDoorWc
import Derived.Test.YtmcggompdmngmaaGreatDoorW1
import Derived.Test.YtmcggompdmngmaaGreatDoorWy
import Derived.ArgAppend
set_option linter.all false
namespace Go.Proofs.YtmcggompdmngmaaGreatDoor
open Go.Ab Go.Ax
set_option maxHeartbeats 20000000
set_option maxRecDepth 100000
attribute [local irreducible] Run Ops Op1 z14 Val Tr z0d z0w NF Rel z1z z27
section
variable {K:Type} [DecidableEq K]
def z8q:Nat→List K→List (K × D)
 | _,[]=>[]
 | i,k::ks=>(k,z4n (i:Nat))::z8q (i+1) ks
theorem zlf (k:K):∀ (ks:List K) (i:Nat),zeb (z8q i ks) k=if k∈ks then some (z4n ((i+z63 k ks:Nat):Int)) else none
 | [],i=>by simp[z8q,zeb]
 | x::ks,i=>by
  rw[z8q,zeb,z63]
  by_cases h:x=k
  · rw[zAz h,zAz h,zAz (by simp[h])];rfl
  · rw[zAy h,zAy h,zlf k ks (i+1)]
    by_cases h2:k∈ks
    · rw[zAz h2,zAz (by simp[h2]),show i+1+z63 k ks=i+(z63 k ks+1) by omega]
    · rw[zAy h2,zAy (by simp[h2,Ne.symm h])]
theorem znu (k:K):∀ (ks:List K) (i:Nat),z8q i (ks++[k])=z8q i ks++[(k,z4n ((i+ks.length:Nat):Int))]
 | [],i=>by simp[z8q]
 | x::ks,i=>by
  rw[List.cons_append,z8q,z8q,znu k ks (i+1),List.cons_append,zAk,show i+1+ks.length=i+(ks.length+1) by omega]
theorem zmb {x:K × D}:∀ {ks:List K} {i:Nat},x∈z8q i ks→x.1∈ks
 | [],i,h=>by simp[z8q] at h
 | y::ks,i,h=>by
  rw[z8q,zAc] at h
  rcases h with h|h
  · rw[h];simp
  · exact List.mem_cons_of_mem _ (zmb h)
theorem zvq {k:K} {ks:List K} (h:k∉ks):zbd (z8q 0 ks) k (z4n (ks.length:Nat))=z8q 0 (ks++[k]):=by
 rw[z7v (z8q 0 ks) k _ (fun x hx e=>h (by rw[← e];exact zmb hx)),znu,Nat.zero_add]
theorem z88 {k:K}:∀ {l:List K},k∉l→z63 k l=l.length
 | [],_=>rfl
 | x::l,h=>by
  rw[zAc,not_or] at h
  rw[z63,zAy (Ne.symm h.1),z88 h.2];rfl
end
def exR (o:Option Au):PV:=match o with
 | some a=>.tup [.d (auD a),B true]
 | none=>.tup [.d (auD ⟨[],[]⟩),B false]
def edE {K:Type} (es:List (Go.Ax.Edge K)):Prop:=es.length≤2000000∧∀ e∈es,0≤e.1∧e.1≤e.2.1∧e.2.1≤1114111
def zuo (k:Bool × Nat):Value:=.agg #[.bool k.1,.int .u64 (k.2:Nat)]
def y9h (k:Int × Int):Value:=.agg #[.int .i64 k.1,.int .i64 k.2]
abbrev mpS (ks:List (Bool × Nat)):Blk:=.mp ((z8q 0 ks).map fun p=>(zuo p.1,p.2))
abbrev scc (x:Bool × Nat):List D:=[zkk x.1,zzw (x.2:Nat)]
abbrev scP (x:Bool × Nat):PV:=.d (.agg (scc x))
abbrev sed (e:Go.Ax.Edge (Bool × Nat)):List D:=[z1j e.1,z1j e.2.1,zkk e.2.2.1,zzw (e.2.2.2:Nat)]
abbrev boc (b:Bool):List D:=[zkk b]
theorem zw4 {K:Type} [DecidableEq K] (ks:List K) (k:K):(zac ks k).length≤ks.length+1:=by rw[zac];split <;> simp
theorem zq1 {K:Type} [DecidableEq K] {ks:List K} {k x:K} (h:x∈zac ks k):x=k∨x∈ks:=by
 rw[zac] at h
 split at h
 · exact .inr h
 · rw[zAt,zAq] at h;exact h.symm
end Go.Proofs.YtmcggompdmngmaaGreatDoor
