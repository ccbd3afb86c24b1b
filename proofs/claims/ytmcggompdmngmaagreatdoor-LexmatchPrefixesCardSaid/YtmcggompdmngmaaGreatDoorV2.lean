/- A part of the proof: A11 to A12. -/
import Derived.Test.YtmcggompdmngmaaGreatDoorVc
import Derived.Test.YtmcggompdmngmaaGreatDoorV1
import Derived.Test.YtmcggompdmngmaaGreatDoorVy
import Derived.ArgAppend
set_option linter.all false
namespace Go.Proofs.YtmcggompdmngmaaGreatDoor
open Go.Ab Go.Ax
set_option maxHeartbeats 20000000
set_option maxRecDepth 100000
attribute [local irreducible] Run Ops Op1 z13 Val Tr z0d z0w NF Rel z2a z2b
section
variable {K:Type} [DecidableEq K]
def z8u:Nat→List K→List (K × D)
 | _,[]=>[]
 | i,k::ks=>(k,z4k (i:Nat))::z8u (i+1) ks
theorem zl2 (k:K):∀ (ks:List K) (i:Nat),zdp (z8u i ks) k=if k∈ks then some (z4k ((i+z92 k ks:Nat):Int)) else none
 | [],i=>by simp[z8u,zdp]
 | x::ks,i=>by
  rw[z8u,zdp,z92]
  by_cases h:x=k
  · rw[zAz h,zAz h,zAz (by simp[h])];rfl
  · rw[zAy h,zAy h,zl2 k ks (i+1)]
    by_cases h2:k∈ks
    · rw[zAz h2,zAz (by simp[h2]),show i+1+z92 k ks=i+(z92 k ks+1) by omega]
    · rw[zAy h2,zAy (by simp[h2,Ne.symm h])]
theorem zls (k:K):∀ (ks:List K) (i:Nat),z8u i (ks++[k])=z8u i ks++[(k,z4k ((i+ks.length:Nat):Int))]
 | [],i=>by simp[z8u]
 | x::ks,i=>by
  rw[List.cons_append,z8u,z8u,zls k ks (i+1),List.cons_append,zAk,show i+1+ks.length=i+(ks.length+1) by omega]
theorem zmg {x:K × D}:∀ {ks:List K} {i:Nat},x∈z8u i ks→x.1∈ks
 | [],i,h=>by simp[z8u] at h
 | y::ks,i,h=>by
  rw[z8u,zAc] at h
  rcases h with h|h
  · rw[h];simp
  · exact List.mem_cons_of_mem _ (zmg h)
theorem zv2 {k:K} {ks:List K} (h:k∉ks):zb9 (z8u 0 ks) k (z4k (ks.length:Nat))=z8u 0 (ks++[k]):=by
 rw[z84 (z8u 0 ks) k _ (fun x hx e=>h (by rw[← e];exact zmg hx)),zls,Nat.zero_add]
theorem z7z {k:K}:∀ {l:List K},k∉l→z92 k l=l.length
 | [],_=>rfl
 | x::l,h=>by
  rw[zAc,not_or] at h
  rw[z92,zAy (Ne.symm h.1),z7z h.2];rfl
end
def exR (o:Option Au):PV:=match o with
 | some a=>.tup [.d (auD a),B true]
 | none=>.tup [.d (auD ⟨[],[]⟩),B false]
def edE {K:Type} (es:List (Go.Ax.Edge K)):Prop:=es.length≤2000000∧∀ e∈es,0≤e.1∧e.1≤e.2.1∧e.2.1≤1114111
def ztl (k:Bool × Nat):Value:=.agg #[.bool k.1,.int .u64 (k.2:Nat)]
def y9e (k:Int × Int):Value:=.agg #[.int .i64 k.1,.int .i64 k.2]
abbrev mpS (ks:List (Bool × Nat)):Blk:=.mp ((z8u 0 ks).map fun p=>(ztl p.1,p.2))
abbrev scc (x:Bool × Nat):List D:=[zj2 x.1,zxw (x.2:Nat)]
abbrev scP (x:Bool × Nat):PV:=.d (.agg (scc x))
abbrev sed (e:Go.Ax.Edge (Bool × Nat)):List D:=[z1h e.1,z1h e.2.1,zj2 e.2.2.1,zxw (e.2.2.2:Nat)]
abbrev boc (b:Bool):List D:=[zj2 b]
theorem zu9 {K:Type} [DecidableEq K] (ks:List K) (k:K):(ze4 ks k).length≤ks.length+1:=by rw[ze4];split <;> simp
theorem ztb {K:Type} [DecidableEq K] {ks:List K} {k x:K} (h:x∈ze4 ks k):x=k∨x∈ks:=by
 rw[ze4] at h
 split at h
 · exact .inr h
 · rw[zAt,zAq] at h;exact h.symm
end Go.Proofs.YtmcggompdmngmaaGreatDoor
