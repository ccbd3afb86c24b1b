/- A part. -/
import Derived.Test.YtonhfccmeammbaaGreatDoorProg
import Derived.Test.YtonhfccmeammbaaGreatDoorVc
import Derived.Test.YtonhfccmeammbaaGreatDoorVx
set_option linter.all false
open Go.Proofs.Tryz
namespace Go.Proofs.YtonhfccmeammbaaGreatDoor
open Go.Ab
instance T3:z1d prog 3 ⟨1,8,(.int .i64),[],[.int .i64 0]⟩:=⟨by kernel_rfl⟩
instance T4:z1d prog 4 ⟨1,1,.bool,[],[.bool false]⟩:=⟨by kernel_rfl⟩
instance T5:z1d prog 5 ⟨1,1,(.int .u8),[],[.int .u8 0]⟩:=⟨by kernel_rfl⟩
instance T9:z1d prog 9 ⟨1,16,.str,[],[.string ⟨#[]⟩]⟩:=⟨by kernel_rfl⟩
instance T21:z1d prog 21 ⟨1,4,(.int .i32),[],[.int .i32 0]⟩:=⟨by kernel_rfl⟩
instance T22:z1d prog 22 ⟨1,24,(.slice 3),[],[z1t]⟩:=⟨by kernel_rfl⟩
instance T25:z1d prog 25 ⟨1,24,(.slice 79),[],[z1t]⟩:=⟨by kernel_rfl⟩
instance T26:z1d prog 26 ⟨1,24,(.slice 30),[],[z1t]⟩:=⟨by kernel_rfl⟩
instance T27:z1d prog 27 ⟨1,24,(.slice 66),[],[z1t]⟩:=⟨by kernel_rfl⟩
instance T28:z1d prog 28 ⟨1,24,(.slice 84),[],[z1t]⟩:=⟨by kernel_rfl⟩
instance T29:z1d prog 29 ⟨1,24,(.slice 55),[],[z1t]⟩:=⟨by kernel_rfl⟩
instance T30:z1d prog 30 ⟨1,24,(.slice 9),[],[z1t]⟩:=⟨by kernel_rfl⟩
instance T32:z1d prog 32 ⟨7,168,.struct,[(0,1),(1,1),(2,1),(3,1),(4,1),(5,1),(6,1)],[z1t,z1t,z1t,z1t,z1t,z1t,z1t]⟩:=⟨by kernel_rfl⟩
instance T34:z1d prog 34 ⟨1,24,(.slice 36),[],[z1t]⟩:=⟨by kernel_rfl⟩
instance T36:z1d prog 36 ⟨11,160,.struct,[(0,1),(1,1),(2,1),(3,1),(4,1),(5,1),(6,1),(7,1),(8,1),(9,1),(10,1)],[.int .i64 0,.string ⟨#[]⟩,.string ⟨#[]⟩,.string ⟨#[]⟩,.string ⟨#[]⟩,.string ⟨#[]⟩,.bool false,.int .i64 0,.int .i64 0,z1t,z1t]⟩:=⟨by kernel_rfl⟩
instance T39:z1d prog 39 ⟨1,24,(.slice 42),[],[z1t]⟩:=⟨by kernel_rfl⟩
instance T42:z1d prog 42 ⟨3,40,.struct,[(0,1),(1,1),(2,1)],[.int .i64 0,.int .i64 0,z1t]⟩:=⟨by kernel_rfl⟩
instance T55:z1d prog 55 ⟨4,40,.struct,[(0,1),(1,1),(2,1),(3,1)],[.string ⟨#[]⟩,.int .i64 0,.int .i64 0,.int .i64 0]⟩:=⟨by kernel_rfl⟩
instance T57:z1d prog 57 ⟨2,32,.struct,[(0,1),(1,1)],[z1t,.int .i64 0]⟩:=⟨by kernel_rfl⟩
instance T64:z1d prog 64 ⟨1,24,(.slice 82),[],[z1t]⟩:=⟨by kernel_rfl⟩
instance T66:z1d prog 66 ⟨4,56,.struct,[(0,1),(1,1),(2,1),(3,1)],[.string ⟨#[]⟩,.int .i64 0,.int .i64 0,z1t]⟩:=⟨by kernel_rfl⟩
instance T67:z1d prog 67 ⟨1,8,.func,[],[.nilFunc]⟩:=⟨by kernel_rfl⟩
instance T79:z1d prog 79 ⟨2,24,.struct,[(0,1),(1,1)],[.string ⟨#[]⟩,.bool false]⟩:=⟨by kernel_rfl⟩
instance T82:z1d prog 82 ⟨2,32,.struct,[(0,1),(1,1)],[.string ⟨#[]⟩,.string ⟨#[]⟩]⟩:=⟨by kernel_rfl⟩
instance T84:z1d prog 84 ⟨4,56,.struct,[(0,1),(1,1),(2,1),(3,1)],[.string ⟨#[]⟩,.int .i64 0,.int .i64 0,z1t]⟩:=⟨by kernel_rfl⟩
instance T105:z1d prog 105 ⟨1,8,.func,[],[.nilFunc]⟩:=⟨by kernel_rfl⟩
instance T107:z1d prog 107 ⟨20,344,.struct,[(0,7),(7,11),(18,1),(19,1)],[z1t,z1t,z1t,z1t,z1t,z1t,z1t,.int .i64 0,.string ⟨#[]⟩,.string ⟨#[]⟩,.string ⟨#[]⟩,.string ⟨#[]⟩,.string ⟨#[]⟩,.bool false,.int .i64 0,.int .i64 0,z1t,z1t,.int .i64 0,.int .i64 0]⟩:=⟨by kernel_rfl⟩
instance T110:z1d prog 110 ⟨1,24,(.slice 207),[],[z1t]⟩:=⟨by kernel_rfl⟩
instance T111:z1d prog 111 ⟨1,24,(.slice 113),[],[z1t]⟩:=⟨by kernel_rfl⟩
instance T113:z1d prog 113 ⟨5,72,.struct,[(0,1),(1,1),(2,1),(3,1),(4,1)],[.int .i64 0,.int .i64 0,.int .i64 0,z1t,z1t]⟩:=⟨by kernel_rfl⟩
instance T130:z1d prog 130 ⟨1,24,(.slice 105),[],[z1t]⟩:=⟨by kernel_rfl⟩
instance T132:z1d prog 132 ⟨1,24,(.slice 137),[],[z1t]⟩:=⟨by kernel_rfl⟩
instance T135:z1d prog 135 ⟨6,72,.struct,[(0,1),(1,1),(2,1),(3,1),(4,1),(5,1)],[.string ⟨#[]⟩,z1t,.int .i64 0,.int .i64 0,.int .i64 0,.bool false]⟩:=⟨by kernel_rfl⟩
instance T137:z1d prog 137 ⟨4,32,.struct,[(0,1),(1,1),(2,1),(3,1)],[.int .i32 0,.int .i64 0,.int .i64 0,.bool false]⟩:=⟨by kernel_rfl⟩
instance T150:z1d prog 150 ⟨4,40,.struct,[(0,1),(1,1),(2,1),(3,1)],[.string ⟨#[]⟩,.int .i64 0,.int .i64 0,.int .i64 0]⟩:=⟨by kernel_rfl⟩
instance T156:z1d prog 156 ⟨1,24,(.slice 21),[],[z1t]⟩:=⟨by kernel_rfl⟩
instance T175:z1d prog 175 ⟨3,24,.struct,[(0,1),(1,1),(2,1)],[.int .i32 0,.int .i64 0,.int .i64 0]⟩:=⟨by kernel_rfl⟩
instance T182:z1d prog 182 ⟨1,8,(.int .u64),[],[.int .u64 0]⟩:=⟨by kernel_rfl⟩
instance T184:z1d prog 184 ⟨1,24,(.slice 110),[],[z1t]⟩:=⟨by kernel_rfl⟩
instance T185:z1d prog 185 ⟨1,24,(.slice 182),[],[z1t]⟩:=⟨by kernel_rfl⟩
instance T187:z1d prog 187 ⟨5,72,.struct,[(0,1),(1,1),(2,1),(3,1),(4,1)],[z1t,.int .u64 0,.int .u64 0,z1t,.bool false]⟩:=⟨by kernel_rfl⟩
instance T193:z1d prog 193 ⟨1,24,(.slice 182),[],[z1t]⟩:=⟨by kernel_rfl⟩
instance T195:z1d prog 195 ⟨1,24,(.slice 193),[],[z1t]⟩:=⟨by kernel_rfl⟩
instance T204:z1d prog 204 ⟨3,24,.struct,[(0,1),(1,1),(2,1)],[.int .u64 0,.int .u64 0,.bool false]⟩:=⟨by kernel_rfl⟩
instance T207:z1d prog 207 ⟨2,8,.struct,[(0,1),(1,1)],[.int .i32 0,.int .i32 0]⟩:=⟨by kernel_rfl⟩
instance T208:z1d prog 208 ⟨1,24,(.slice 5),[],[z1t]⟩:=⟨by kernel_rfl⟩
instance T217:z1d prog 217 ⟨1,8,(.int .u64),[],[.int .u64 0]⟩:=⟨by kernel_rfl⟩
end Go.Proofs.YtonhfccmeammbaaGreatDoor
namespace Go.Proofs.YtonhfccmeammbaaGreatDoor
open Go.Ab Go.Rx
abbrev Str:=ByteArray
abbrev z6o(s:Str):D:=.lit (.string s)
abbrev z2g(x:Int):D:=.lit (.int .i64 x)
abbrev zji(b:Bool):D:=.lit (.bool b)
abbrev y0z(x:Int):D:=.lit (.int .u64 x)
abbrev zbg(x:Int):D:=.lit (.int .i32 x)
theorem mix:prog.follows .mixedOrders=true:=by kernel_rfl
theorem drop_cons{α:Type}{l:List α}{k:Nat}{x:α}(h:l[k]? =some x):l.drop k=x::l.drop (k+1):=by
 obtain⟨h1,h2⟩:=zA1.1 h
 rw[List.drop_eq_getElem_cons h1,h2]
theorem getD_some{α:Type}{l:List α}{i:Nat}{x y:α}(h:l[i]? =some x):l.getD i y=x:=by simp[List.getD,h]
theorem z7x{α:Type}{l:List α}{k:Nat}{x:α}(h:l[k]? =some x):l.take (k+1)=l.take k++[x]:=by
 rw[List.take_add_one,h];rfl
theorem zo4{x:Int}(h1:-2147483648≤x)(h2:x≤2147483647):IntKind.i32.wrap x=x:=by
 simp[IntKind.wrap,IntKind.bits,IntKind.signed];omega
abbrev rgc(r:Rg):List D:=[zbg r.1,zbg r.2]
abbrev rgs(l:List Rg):D:=.slice (l.map rgc)
mutual
def rxc:Rx→List D
 | .mk op mn mx rs ks=>[z2g op,z2g mn,z2g mx,rgs rs,.slice (rxL ks)]
def rxL:List Rx→List (List D)
 | []=>[]
 | k::ks=>rxc k::rxL ks
end
theorem zrs:∀l:List Rx,rxL l=l.map rxc
 | []=>rfl
 | k::ks=>by rw[rxL,zrs ks];rfl
theorem z3i(op mn mx:Int)(rs:List Rg)(ks:List Rx):rxc (.mk op mn mx rs ks)=[z2g op,z2g mn,z2g mx,rgs rs,.slice (ks.map rxc)]:=by rw[rxc,zrs]
theorem z8k(e:Rx):(rxc e).length=5:=by obtain⟨op,mn,mx,rs,ks⟩:=e;rw[z3i];rfl
abbrev Drx(e:Rx):D:=.agg (rxc e)
abbrev rx5(op mn mx:Int)(rs:List Rg)(ks:List Rx):List D:=[z2g op,z2g mn,z2g mx,rgs rs,.slice (ks.map rxc)]
theorem z62{ks:List Rx}{i:Nat}{op mn mx:Int}{rs:List Rg}{kk:List Rx}(h:ks[i]? =some (.mk op mn mx rs kk)):(ks.map rxc)[((i:Nat):Int).toNat]? =some (rx5 op mn mx rs kk):=by
 rw[←show rxc (.mk op mn mx rs kk)=rx5 op mn mx rs kk from z3i op mn mx rs kk];exact idx h
mutual
def fit:Rx→Prop
 | .mk _ _ _ rs ks=>rs.length≤9223372036854775807∧ks.length≤9223372036854775807∧zud ks
def zud:List Rx→Prop
 | []=>True
 | k::ks=>fit k∧zud ks
end
theorem z5z:∀ {l:List Rx},zud l→∀k∈l,fit k
 | [],_,k,hk=>by simp at hk
 | x::l,h,k,hk=>by
  rw[zud]at h
  rw[zAc]at hk
  rcases hk with rfl|hk
  ·exact h.1
  ·exact z5z h.2 k hk
end Go.Proofs.YtonhfccmeammbaaGreatDoor
