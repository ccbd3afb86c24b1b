/- A part of the proof: A11 to A20. -/
import Derived.Test.YtmcggompdmngmaaGreatDoorYc
import Derived.Test.YtmcggompdmngmaaGreatDoorY1
import Derived.Test.YtmcggompdmngmaaGreatDoorYy
import Derived.ArgAppend
set_option linter.all false
namespace Go.Proofs.YtmcggompdmngmaaGreatDoor
open Go.Ab Go.Ax
set_option maxHeartbeats 20000000
set_option maxRecDepth 100000
attribute [local irreducible] Run Ops Op1 z0u Val Tr z09 z0q NF Rel z1v z1u
section
variable {K:Type} [DecidableEq K]
def z8p:Nat→List K→List (K × D)
 | _,[]=>[]
 | i,k::ks=>(k,z2g (i:Nat))::z8p (i+1) ks
theorem zn9 (k:K):∀ (ks:List K) (i:Nat),ze1 (z8p i ks) k=if k∈ks then some (z2g ((i+z5u k ks:Nat):Int)) else none
 | [],i=>by simp[z8p,ze1]
 | x::ks,i=>by
  rw[z8p,ze1,z5u]
  by_cases h:x=k
  · rw[zAz h,zAz h,zAz (by simp[h])];rfl
  · rw[zAy h,zAy h,zn9 k ks (i+1)]
    by_cases h2:k∈ks
    · rw[zAz h2,zAz (by simp[h2]),show i+1+z5u k ks=i+(z5u k ks+1) by omega]
    · rw[zAy h2,zAy (by simp[h2,Ne.symm h])]
theorem znp (k:K):∀ (ks:List K) (i:Nat),z8p i (ks++[k])=z8p i ks++[(k,z2g ((i+ks.length:Nat):Int))]
 | [],i=>by simp[z8p]
 | x::ks,i=>by
  rw[List.cons_append,z8p,z8p,znp k ks (i+1),List.cons_append,zAk,show i+1+ks.length=i+(ks.length+1) by omega]
theorem zma {x:K × D}:∀ {ks:List K} {i:Nat},x∈z8p i ks→x.1∈ks
 | [],i,h=>by simp[z8p] at h
 | y::ks,i,h=>by
  rw[z8p,zAc] at h
  rcases h with h|h
  · rw[h];simp
  · exact List.mem_cons_of_mem _ (zma h)
theorem zxy {k:K} {ks:List K} (h:k∉ks):zbd (z8p 0 ks) k (z2g (ks.length:Nat))=z8p 0 (ks++[k]):=by
 rw[z7z (z8p 0 ks) k _ (fun x hx e=>h (by rw[← e];exact zma hx)),znp,Nat.zero_add]
theorem z7t {k:K}:∀ {l:List K},k∉l→z5u k l=l.length
 | [],_=>rfl
 | x::l,h=>by
  rw[zAc,not_or] at h
  rw[z5u,zAy (Ne.symm h.1),z7t h.2];rfl
end
def exR (o:Option Au):PV:=match o with
 | some a=>.tup [.d (auD a),B true]
 | none=>.tup [.d (auD ⟨[],[]⟩),B false]
def edE {K:Type} (es:List (Go.Ax.Edge K)):Prop:=es.length≤2000000∧∀ e∈es,0≤e.1∧e.1≤e.2.1∧e.2.1≤1114111
def zux (k:Bool × Nat):Value:=.agg #[.bool k.1,.int .u64 (k.2:Nat)]
def ycl (k:Int × Int):Value:=.agg #[.int .i64 k.1,.int .i64 k.2]
abbrev mpS (ks:List (Bool × Nat)):Blk:=.mp ((z8p 0 ks).map fun p=>(zux p.1,p.2))
abbrev scc (x:Bool × Nat):List D:=[zl3 x.1,zzs (x.2:Nat)]
abbrev scP (x:Bool × Nat):PV:=.d (.agg (scc x))
abbrev sed (e:Go.Ax.Edge (Bool × Nat)):List D:=[z11 e.1,z11 e.2.1,zl3 e.2.2.1,zzs (e.2.2.2:Nat)]
abbrev boc (b:Bool):List D:=[zl3 b]
theorem zze {K:Type} [DecidableEq K] (ks:List K) (k:K):(za3 ks k).length≤ks.length+1:=by rw[za3];split <;> simp
theorem zus {K:Type} [DecidableEq K] {ks:List K} {k x:K} (h:x∈za3 ks k):x=k∨x∈ks:=by
 rw[za3] at h
 split at h
 · exact .inr h
 · rw[zAt,zAq] at h;exact h.symm
section
variable {P:Program} {f:FuncId} {R:z2p} {k:List Go.Item} {n:Nat} {tm tm':List (Nat × PV)} {hp:Hp} {up:Hf}
theorem z2q (A B:Hp) (s:Nat):Ab.look (A++B) s=(Ab.look A s).or (Ab.look B s):=by
 induction A with
 | nil=>rfl
 | cons q r ih=>obtain⟨kk,c⟩:=q;simp only[List.cons_append,Ab.look];split <;> simp[ih]
end
end Go.Proofs.YtmcggompdmngmaaGreatDoor
