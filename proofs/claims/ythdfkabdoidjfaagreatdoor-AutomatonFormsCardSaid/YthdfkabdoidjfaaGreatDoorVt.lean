/- A part of the proof: Types to Defs. -/
import Derived.Test.YthdfkabdoidjfaaGreatDoorVa
import Derived.Test.YthdfkabdoidjfaaGreatDoorProg
import Derived.Test.YthdfkabdoidjfaaGreatDoorVc
import Derived.Test.YthdfkabdoidjfaaGreatDoorVx
set_option linter.all false
namespace Go.Proofs.YthdfkabdoidjfaaGreatDoor
open Go.Ab
instance T3:z1l Tryz.prog 3 ⟨1,8,(.int .i64),[],[.int .i64 0]⟩:=⟨by kernel_rfl⟩
instance T4:z1l Tryz.prog 4 ⟨1,1,.bool,[],[.bool false]⟩:=⟨by kernel_rfl⟩
instance T5:z1l Tryz.prog 5 ⟨1,1,(.int .u8),[],[.int .u8 0]⟩:=⟨by kernel_rfl⟩
instance T9:z1l Tryz.prog 9 ⟨1,16,.str,[],[.string ⟨#[]⟩]⟩:=⟨by kernel_rfl⟩
instance T21:z1l Tryz.prog 21 ⟨1,4,(.int .i32),[],[.int .i32 0]⟩:=⟨by kernel_rfl⟩
instance T22:z1l Tryz.prog 22 ⟨1,24,(.slice 4),[],[z4d]⟩:=⟨by kernel_rfl⟩
instance T23:z1l Tryz.prog 23 ⟨1,24,(.slice 39),[],[z4d]⟩:=⟨by kernel_rfl⟩
instance T25:z1l Tryz.prog 25 ⟨2,48,.struct,[(0,1),(1,1)],[z4d,z4d]⟩:=⟨by kernel_rfl⟩
instance T27:z1l Tryz.prog 27 ⟨1,8,(.int .i64),[],[.int .i64 0]⟩:=⟨by kernel_rfl⟩
instance T38:z1l Tryz.prog 38 ⟨3,16,.struct,[(0,1),(1,1),(2,1)],[.int .i32 0,.int .i32 0,.int .i64 0]⟩:=⟨by kernel_rfl⟩
instance T39:z1l Tryz.prog 39 ⟨1,24,(.slice 38),[],[z4d]⟩:=⟨by kernel_rfl⟩
instance T41:z1l Tryz.prog 41 ⟨1,24,(.slice 155),[],[z4d]⟩:=⟨by kernel_rfl⟩
instance T42:z1l Tryz.prog 42 ⟨1,24,(.slice 44),[],[z4d]⟩:=⟨by kernel_rfl⟩
instance T44:z1l Tryz.prog 44 ⟨5,72,.struct,[(0,1),(1,1),(2,1),(3,1),(4,1)],[.int .i64 0,.int .i64 0,.int .i64 0,z4d,z4d]⟩:=⟨by kernel_rfl⟩
instance T54:z1l Tryz.prog 54 ⟨1,24,(.slice 21),[],[z4d]⟩:=⟨by kernel_rfl⟩
instance T64:z1l Tryz.prog 64 ⟨1,24,(.slice 94),[],[z4d]⟩:=⟨by kernel_rfl⟩
instance T74:z1l Tryz.prog 74 ⟨1,8,(.ptr 82),[],[.pointer none]⟩:=⟨by kernel_rfl⟩
instance T76:z1l Tryz.prog 76 ⟨1,8,(.int .u64),[],[.int .u64 0]⟩:=⟨by kernel_rfl⟩
instance T78:z1l Tryz.prog 78 ⟨2,16,.struct,[(0,1),(1,1)],[.bool false,.int .u64 0]⟩:=⟨by kernel_rfl⟩
instance T79:z1l Tryz.prog 79 ⟨1,24,(.slice 41),[],[z4d]⟩:=⟨by kernel_rfl⟩
instance T80:z1l Tryz.prog 80 ⟨1,24,(.slice 76),[],[z4d]⟩:=⟨by kernel_rfl⟩
instance T82:z1l Tryz.prog 82 ⟨5,72,.struct,[(0,1),(1,1),(2,1),(3,1),(4,1)],[z4d,.int .u64 0,.int .u64 0,z4d,.bool false]⟩:=⟨by kernel_rfl⟩
instance T84:z1l Tryz.prog 84 ⟨1,24,(.slice 89),[],[z4d]⟩:=⟨by kernel_rfl⟩
instance T89:z1l Tryz.prog 89 ⟨4,24,.struct,[(0,1),(1,1),(2,2)],[.int .i32 0,.int .i32 0,.bool false,.int .u64 0]⟩:=⟨by kernel_rfl⟩
instance T94:z1l Tryz.prog 94 ⟨1,24,(.slice 3),[],[z4d]⟩:=⟨by kernel_rfl⟩
instance T102:z1l Tryz.prog 102 ⟨4,40,.struct,[(0,1),(1,1),(2,1),(3,1)],[.string ⟨#[]⟩,.int .i64 0,.int .i64 0,.int .i64 0]⟩:=⟨by kernel_rfl⟩
instance T109:z1l Tryz.prog 109 ⟨3,24,.struct,[(0,1),(1,1),(2,1)],[.int .i32 0,.int .i64 0,.int .i64 0]⟩:=⟨by kernel_rfl⟩
instance T120:z1l Tryz.prog 120 ⟨1,8,(.map 3 3),[],[.map none]⟩:=⟨by kernel_rfl⟩
instance T122:z1l Tryz.prog 122 ⟨1,24,(.slice 169),[],[z4d]⟩:=⟨by kernel_rfl⟩
instance T138:z1l Tryz.prog 138 ⟨2,16,.struct,[(0,1),(1,1)],[.int .i64 0,.int .i64 0]⟩:=⟨by kernel_rfl⟩
instance T141:z1l Tryz.prog 141 ⟨1,24,(.slice 146),[],[z4d]⟩:=⟨by kernel_rfl⟩
instance T146:z1l Tryz.prog 146 ⟨4,24,.struct,[(0,1),(1,1),(2,2)],[.int .i32 0,.int .i32 0,.int .i64 0,.int .i64 0]⟩:=⟨by kernel_rfl⟩
instance T152:z1l Tryz.prog 152 ⟨3,24,.struct,[(0,1),(1,1),(2,1)],[.int .u64 0,.int .u64 0,.bool false]⟩:=⟨by kernel_rfl⟩
instance T155:z1l Tryz.prog 155 ⟨2,8,.struct,[(0,1),(1,1)],[.int .i32 0,.int .i32 0]⟩:=⟨by kernel_rfl⟩
instance T159:z1l Tryz.prog 159 ⟨1,24,(.slice 78),[],[z4d]⟩:=⟨by kernel_rfl⟩
instance T163:z1l Tryz.prog 163 ⟨1,8,(.int .u64),[],[.int .u64 0]⟩:=⟨by kernel_rfl⟩
instance T166:z1l Tryz.prog 166 ⟨1,24,(.slice 5),[],[z4d]⟩:=⟨by kernel_rfl⟩
instance T169:z1l Tryz.prog 169 ⟨3,16,.struct,[(0,1),(1,1),(2,1)],[.int .i32 0,.int .i32 0,.int .i64 0]⟩:=⟨by kernel_rfl⟩
instance T174:z1l Tryz.prog 174 ⟨1,24,(.slice 138),[],[z4d]⟩:=⟨by kernel_rfl⟩
instance T195:z1l Tryz.prog 195 ⟨1,8,(.int .u64),[],[.int .u64 0]⟩:=⟨by kernel_rfl⟩
open Go.Ab Go.Rx
abbrev z2w (x:Int):D:=.lit (.int .i64 x)
abbrev zby (b:Bool):D:=.lit (.bool b)
abbrev zwr (x:Int):D:=.lit (.int .u64 x)
abbrev z2j (x:Int):D:=.lit (.int .i32 x)
theorem mix:Tryz.prog.follows .mixedOrders=true:=by kernel_rfl
theorem drop_cons {α:Type} {l:List α} {k:Nat} {x:α} (h:l[k]? =some x):l.drop k=x::l.drop (k+1):=by
 obtain⟨h1,h2⟩:=zA1.1 h
 rw[List.drop_eq_getElem_cons h1,h2]
theorem getD_some {α:Type} {l:List α} {i:Nat} {x y:α} (h:l[i]? =some x):l.getD i y=x:=by simp[List.getD,h]
theorem z8v {α:Type} {l:List α} {k:Nat} {x:α} (h:l[k]? =some x):l.take (k+1)=l.take k++[x]:=by
 rw[List.take_add_one,h];rfl
theorem zak {x:Int} (h1:-2147483648≤x) (h2:x≤2147483647):IntKind.i32.wrap x=x:=by
 simp[IntKind.wrap,IntKind.bits,IntKind.signed];omega
abbrev rgc (r:Rg):List D:=[z2j r.1,z2j r.2]
abbrev rgs (l:List Rg):D:=.slice (l.map rgc)
mutual
def rxc:Rx→List D
 | .mk op mn mx rs ks=>[z2w op,z2w mn,z2w mx,rgs rs,.slice (rxL ks)]
def rxL:List Rx→List (List D)
 | []=>[]
 | k::ks=>rxc k::rxL ks
end
theorem zow:∀ l:List Rx,rxL l=l.map rxc
 | []=>rfl
 | k::ks=>by rw[rxL,zow ks];rfl
theorem z3j (op mn mx:Int) (rs:List Rg) (ks:List Rx):rxc (.mk op mn mx rs ks)=[z2w op,z2w mn,z2w mx,rgs rs,.slice (ks.map rxc)]:=by rw[rxc,zow]
theorem zea (e:Rx):(rxc e).length=5:=by obtain⟨op,mn,mx,rs,ks⟩:=e;rw[z3j];rfl
abbrev Drx (e:Rx):D:=.agg (rxc e)
abbrev rx5 (op mn mx:Int) (rs:List Rg) (ks:List Rx):List D:=[z2w op,z2w mn,z2w mx,rgs rs,.slice (ks.map rxc)]
theorem z5p {ks:List Rx} {i:Nat} {op mn mx:Int} {rs:List Rg} {kk:List Rx} (h:ks[i]? =some (.mk op mn mx rs kk)):(ks.map rxc)[((i:Nat):Int).toNat]? =some (rx5 op mn mx rs kk):=by
 rw[← show rxc (.mk op mn mx rs kk)=rx5 op mn mx rs kk from z3j op mn mx rs kk];exact idx h
mutual
def fit:Rx→Prop
 | .mk _ _ _ rs ks=>rs.length≤9223372036854775807∧ks.length≤9223372036854775807∧zd0 ks
def zd0:List Rx→Prop
 | []=>True
 | k::ks=>fit k∧zd0 ks
end
theorem z6g:∀ {l:List Rx},zd0 l→∀ k∈l,fit k
 | [],_,k,hk=>by simp at hk
 | x::l,h,k,hk=>by
  rw[zd0] at h
  rw[zAc] at hk
  rcases hk with rfl|hk
  · exact h.1
  · exact z6g h.2 k hk
end Go.Proofs.YthdfkabdoidjfaaGreatDoor
