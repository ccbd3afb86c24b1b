/- A part of the proof: Types to Defs. -/
import Derived.Test.YthdfkabdoidjfaaGreatDoorUa
import Derived.Test.YthdfkabdoidjfaaGreatDoorProg
import Derived.Test.YthdfkabdoidjfaaGreatDoorUc
import Derived.Test.YthdfkabdoidjfaaGreatDoorUx
set_option linter.all false
namespace Go.Proofs.YthdfkabdoidjfaaGreatDoor
open Go.Ab
instance T3:z0m Tryz.prog 3 ⟨1,8,(.int .i64),[],[.int .i64 0]⟩:=⟨by kernel_rfl⟩
instance T4:z0m Tryz.prog 4 ⟨1,1,.bool,[],[.bool false]⟩:=⟨by kernel_rfl⟩
instance T5:z0m Tryz.prog 5 ⟨1,1,(.int .u8),[],[.int .u8 0]⟩:=⟨by kernel_rfl⟩
instance T9:z0m Tryz.prog 9 ⟨1,16,.str,[],[.string ⟨#[]⟩]⟩:=⟨by kernel_rfl⟩
instance T21:z0m Tryz.prog 21 ⟨1,4,(.int .i32),[],[.int .i32 0]⟩:=⟨by kernel_rfl⟩
instance T22:z0m Tryz.prog 22 ⟨1,24,(.slice 4),[],[z2c]⟩:=⟨by kernel_rfl⟩
instance T23:z0m Tryz.prog 23 ⟨1,24,(.slice 39),[],[z2c]⟩:=⟨by kernel_rfl⟩
instance T25:z0m Tryz.prog 25 ⟨2,48,.struct,[(0,1),(1,1)],[z2c,z2c]⟩:=⟨by kernel_rfl⟩
instance T27:z0m Tryz.prog 27 ⟨1,8,(.int .i64),[],[.int .i64 0]⟩:=⟨by kernel_rfl⟩
instance T38:z0m Tryz.prog 38 ⟨3,16,.struct,[(0,1),(1,1),(2,1)],[.int .i32 0,.int .i32 0,.int .i64 0]⟩:=⟨by kernel_rfl⟩
instance T39:z0m Tryz.prog 39 ⟨1,24,(.slice 38),[],[z2c]⟩:=⟨by kernel_rfl⟩
instance T41:z0m Tryz.prog 41 ⟨1,24,(.slice 155),[],[z2c]⟩:=⟨by kernel_rfl⟩
instance T42:z0m Tryz.prog 42 ⟨1,24,(.slice 44),[],[z2c]⟩:=⟨by kernel_rfl⟩
instance T44:z0m Tryz.prog 44 ⟨5,72,.struct,[(0,1),(1,1),(2,1),(3,1),(4,1)],[.int .i64 0,.int .i64 0,.int .i64 0,z2c,z2c]⟩:=⟨by kernel_rfl⟩
instance T54:z0m Tryz.prog 54 ⟨1,24,(.slice 21),[],[z2c]⟩:=⟨by kernel_rfl⟩
instance T55:z0m Tryz.prog 55 ⟨1,24,(.slice 25),[],[z2c]⟩:=⟨by kernel_rfl⟩
instance T64:z0m Tryz.prog 64 ⟨1,24,(.slice 94),[],[z2c]⟩:=⟨by kernel_rfl⟩
instance T66:z0m Tryz.prog 66 ⟨3,72,.struct,[(0,1),(1,1),(2,1)],[z2c,z2c,z2c]⟩:=⟨by kernel_rfl⟩
instance T74:z0m Tryz.prog 74 ⟨1,8,(.ptr 82),[],[.pointer none]⟩:=⟨by kernel_rfl⟩
instance T76:z0m Tryz.prog 76 ⟨1,8,(.int .u64),[],[.int .u64 0]⟩:=⟨by kernel_rfl⟩
instance T78:z0m Tryz.prog 78 ⟨2,16,.struct,[(0,1),(1,1)],[.bool false,.int .u64 0]⟩:=⟨by kernel_rfl⟩
instance T79:z0m Tryz.prog 79 ⟨1,24,(.slice 41),[],[z2c]⟩:=⟨by kernel_rfl⟩
instance T80:z0m Tryz.prog 80 ⟨1,24,(.slice 76),[],[z2c]⟩:=⟨by kernel_rfl⟩
instance T82:z0m Tryz.prog 82 ⟨5,72,.struct,[(0,1),(1,1),(2,1),(3,1),(4,1)],[z2c,.int .u64 0,.int .u64 0,z2c,.bool false]⟩:=⟨by kernel_rfl⟩
instance T84:z0m Tryz.prog 84 ⟨1,24,(.slice 89),[],[z2c]⟩:=⟨by kernel_rfl⟩
instance T89:z0m Tryz.prog 89 ⟨4,24,.struct,[(0,1),(1,1),(2,2)],[.int .i32 0,.int .i32 0,.bool false,.int .u64 0]⟩:=⟨by kernel_rfl⟩
instance T94:z0m Tryz.prog 94 ⟨1,24,(.slice 3),[],[z2c]⟩:=⟨by kernel_rfl⟩
instance T102:z0m Tryz.prog 102 ⟨4,40,.struct,[(0,1),(1,1),(2,1),(3,1)],[.string ⟨#[]⟩,.int .i64 0,.int .i64 0,.int .i64 0]⟩:=⟨by kernel_rfl⟩
instance T109:z0m Tryz.prog 109 ⟨3,24,.struct,[(0,1),(1,1),(2,1)],[.int .i32 0,.int .i64 0,.int .i64 0]⟩:=⟨by kernel_rfl⟩
instance T120:z0m Tryz.prog 120 ⟨1,8,(.map 3 3),[],[.map none]⟩:=⟨by kernel_rfl⟩
instance T122:z0m Tryz.prog 122 ⟨1,24,(.slice 169),[],[z2c]⟩:=⟨by kernel_rfl⟩
instance T129:z0m Tryz.prog 129 ⟨2,16,(.array 2 3),[],[.int .i64 0,.int .i64 0]⟩:=⟨by kernel_rfl⟩
instance T130:z0m Tryz.prog 130 ⟨1,24,(.slice 129),[],[z2c]⟩:=⟨by kernel_rfl⟩
instance T138:z0m Tryz.prog 138 ⟨2,16,.struct,[(0,1),(1,1)],[.int .i64 0,.int .i64 0]⟩:=⟨by kernel_rfl⟩
instance T141:z0m Tryz.prog 141 ⟨1,24,(.slice 146),[],[z2c]⟩:=⟨by kernel_rfl⟩
instance T146:z0m Tryz.prog 146 ⟨4,24,.struct,[(0,1),(1,1),(2,2)],[.int .i32 0,.int .i32 0,.int .i64 0,.int .i64 0]⟩:=⟨by kernel_rfl⟩
instance T152:z0m Tryz.prog 152 ⟨3,24,.struct,[(0,1),(1,1),(2,1)],[.int .u64 0,.int .u64 0,.bool false]⟩:=⟨by kernel_rfl⟩
instance T155:z0m Tryz.prog 155 ⟨2,8,.struct,[(0,1),(1,1)],[.int .i32 0,.int .i32 0]⟩:=⟨by kernel_rfl⟩
instance T159:z0m Tryz.prog 159 ⟨1,24,(.slice 78),[],[z2c]⟩:=⟨by kernel_rfl⟩
instance T163:z0m Tryz.prog 163 ⟨1,8,(.int .u64),[],[.int .u64 0]⟩:=⟨by kernel_rfl⟩
instance T166:z0m Tryz.prog 166 ⟨1,24,(.slice 5),[],[z2c]⟩:=⟨by kernel_rfl⟩
instance T169:z0m Tryz.prog 169 ⟨3,16,.struct,[(0,1),(1,1),(2,1)],[.int .i32 0,.int .i32 0,.int .i64 0]⟩:=⟨by kernel_rfl⟩
instance T174:z0m Tryz.prog 174 ⟨1,24,(.slice 138),[],[z2c]⟩:=⟨by kernel_rfl⟩
instance T195:z0m Tryz.prog 195 ⟨1,8,(.int .u64),[],[.int .u64 0]⟩:=⟨by kernel_rfl⟩
open Go.Ab Go.Rx
abbrev z0u (x:Int):D:=.lit (.int .i64 x)
abbrev z7a (b:Bool):D:=.lit (.bool b)
abbrev zxj (x:Int):D:=.lit (.int .u64 x)
abbrev z0v (x:Int):D:=.lit (.int .i32 x)
theorem mix:Tryz.prog.follows .mixedOrders=true:=by kernel_rfl
theorem drop_cons {α:Type} {l:List α} {k:Nat} {x:α} (h:l[k]? =some x):l.drop k=x::l.drop (k+1):=by
 obtain⟨h1,h2⟩:=zA1.1 h
 rw[List.drop_eq_getElem_cons h1,h2]
theorem getD_some {α:Type} {l:List α} {i:Nat} {x y:α} (h:l[i]? =some x):l.getD i y=x:=by simp[List.getD,h]
theorem z3n {α:Type} {l:List α} {k:Nat} {x:α} (h:l[k]? =some x):l.take (k+1)=l.take k++[x]:=by
 rw[List.take_add_one,h];rfl
theorem z8h {x:Int} (h1:-2147483648≤x) (h2:x≤2147483647):IntKind.i32.wrap x=x:=by
 simp[IntKind.wrap,IntKind.bits,IntKind.signed];omega
abbrev rgc (r:Rg):List D:=[z0v r.1,z0v r.2]
abbrev rgs (l:List Rg):D:=.slice (l.map rgc)
mutual
def rxc:Rx→List D
 | .mk op mn mx rs ks=>[z0u op,z0u mn,z0u mx,rgs rs,.slice (rxL ks)]
def rxL:List Rx→List (List D)
 | []=>[]
 | k::ks=>rxc k::rxL ks
end
theorem zqj:∀ l:List Rx,rxL l=l.map rxc
 | []=>rfl
 | k::ks=>by rw[rxL,zqj ks];rfl
theorem z3f (op mn mx:Int) (rs:List Rg) (ks:List Rx):rxc (.mk op mn mx rs ks)=[z0u op,z0u mn,z0u mx,rgs rs,.slice (ks.map rxc)]:=by rw[rxc,zqj]
theorem zcq (e:Rx):(rxc e).length=5:=by obtain⟨op,mn,mx,rs,ks⟩:=e;rw[z3f];rfl
abbrev Drx (e:Rx):D:=.agg (rxc e)
abbrev rx5 (op mn mx:Int) (rs:List Rg) (ks:List Rx):List D:=[z0u op,z0u mn,z0u mx,rgs rs,.slice (ks.map rxc)]
theorem zdy {ks:List Rx} {i:Nat} {op mn mx:Int} {rs:List Rg} {kk:List Rx} (h:ks[i]? =some (.mk op mn mx rs kk)):(ks.map rxc)[((i:Nat):Int).toNat]? =some (rx5 op mn mx rs kk):=by
 rw[← show rxc (.mk op mn mx rs kk)=rx5 op mn mx rs kk from z3f op mn mx rs kk];exact idx h
mutual
def fit:Rx→Prop
 | .mk _ _ _ rs ks=>rs.length≤9223372036854775807∧ks.length≤9223372036854775807∧y2q ks
def y2q:List Rx→Prop
 | []=>True
 | k::ks=>fit k∧y2q ks
end
theorem zbj:∀ {l:List Rx},y2q l→∀ k∈l,fit k
 | [],_,k,hk=>by simp at hk
 | x::l,h,k,hk=>by
  rw[y2q] at h
  rw[zAc] at hk
  rcases hk with rfl|hk
  · exact h.1
  · exact zbj h.2 k hk
end Go.Proofs.YthdfkabdoidjfaaGreatDoor
