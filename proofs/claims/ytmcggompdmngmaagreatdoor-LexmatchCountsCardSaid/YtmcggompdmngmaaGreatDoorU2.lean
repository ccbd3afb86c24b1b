/- A part of the proof: A11 to A12. -/
import Derived.Test.YtmcggompdmngmaaGreatDoorUc
import Derived.Test.YtmcggompdmngmaaGreatDoorU1
import Derived.Test.YtmcggompdmngmaaGreatDoorUy
import Derived.ArgAppend
set_option linter.all false
namespace Go.Proofs.YtmcggompdmngmaaGreatDoor
open Go.Ab Go.Ax
set_option maxHeartbeats 20000000
set_option maxRecDepth 100000
attribute [local irreducible] Run Ops Op1 z15 Val Tr z0d z0y NF Rel z2a z29
section
variable {K:Type} [DecidableEq K]
def z97:Nat→List K→List (K × D)
 | _,[]=>[]
 | i,k::ks=>(k,z4g (i:Nat))::z97 (i+1) ks
theorem znd (k:K):∀ (ks:List K) (i:Nat),zeg (z97 i ks) k=if k∈ks then some (z4g ((i+z9e k ks:Nat):Int)) else none
 | [],i=>by simp[z97,zeg]
 | x::ks,i=>by
  rw[z97,zeg,z9e]
  by_cases h:x=k
  · rw[zAz h,zAz h,zAz (by simp[h])];rfl
  · rw[zAy h,zAy h,znd k ks (i+1)]
    by_cases h2:k∈ks
    · rw[zAz h2,zAz (by simp[h2]),show i+1+z9e k ks=i+(z9e k ks+1) by omega]
    · rw[zAy h2,zAy (by simp[h2,Ne.symm h])]
theorem zmo (k:K):∀ (ks:List K) (i:Nat),z97 i (ks++[k])=z97 i ks++[(k,z4g ((i+ks.length:Nat):Int))]
 | [],i=>by simp[z97]
 | x::ks,i=>by
  rw[List.cons_append,z97,z97,zmo k ks (i+1),List.cons_append,zAk,show i+1+ks.length=i+(ks.length+1) by omega]
theorem zmi {x:K × D}:∀ {ks:List K} {i:Nat},x∈z97 i ks→x.1∈ks
 | [],i,h=>by simp[z97] at h
 | y::ks,i,h=>by
  rw[z97,zAc] at h
  rcases h with h|h
  · rw[h];simp
  · exact List.mem_cons_of_mem _ (zmi h)
theorem zy3 {k:K} {ks:List K} (h:k∉ks):z99 (z97 0 ks) k (z4g (ks.length:Nat))=z97 0 (ks++[k]):=by
 rw[z7u (z97 0 ks) k _ (fun x hx e=>h (by rw[← e];exact zmi hx)),zmo,Nat.zero_add]
theorem z81 {k:K}:∀ {l:List K},k∉l→z9e k l=l.length
 | [],_=>rfl
 | x::l,h=>by
  rw[zAc,not_or] at h
  rw[z9e,zAy (Ne.symm h.1),z81 h.2];rfl
end
def exR (o:Option Au):PV:=match o with
 | some a=>.tup [.d (auD a),B true]
 | none=>.tup [.d (auD ⟨[],[]⟩),B false]
def edE {K:Type} (es:List (Go.Ax.Edge K)):Prop:=es.length≤2000000∧∀ e∈es,0≤e.1∧e.1≤e.2.1∧e.2.1≤1114111
def zv2 (k:Bool × Nat):Value:=.agg #[.bool k.1,.int .u64 (k.2:Nat)]
def y8u (k:Int × Int):Value:=.agg #[.int .i64 k.1,.int .i64 k.2]
abbrev mpS (ks:List (Bool × Nat)):Blk:=.mp ((z97 0 ks).map fun p=>(zv2 p.1,p.2))
abbrev scc (x:Bool × Nat):List D:=[zdh x.1,zz3 (x.2:Nat)]
abbrev scP (x:Bool × Nat):PV:=.d (.agg (scc x))
abbrev sed (e:Go.Ax.Edge (Bool × Nat)):List D:=[z1k e.1,z1k e.2.1,zdh e.2.2.1,zz3 (e.2.2.2:Nat)]
abbrev boc (b:Bool):List D:=[zdh b]
theorem zx7 {K:Type} [DecidableEq K] (ks:List K) (k:K):(z6z ks k).length≤ks.length+1:=by rw[z6z];split <;> simp
theorem zq3 {K:Type} [DecidableEq K] {ks:List K} {k x:K} (h:x∈z6z ks k):x=k∨x∈ks:=by
 rw[z6z] at h
 split at h
 · exact .inr h
 · rw[zAt,zAq] at h;exact h.symm
end Go.Proofs.YtmcggompdmngmaaGreatDoor
