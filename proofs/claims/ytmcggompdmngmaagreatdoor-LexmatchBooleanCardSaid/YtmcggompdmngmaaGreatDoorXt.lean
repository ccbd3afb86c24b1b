/- A part. -/
import Derived.Test.YtmcggompdmngmaaGreatDoorProg
import Derived.Test.YtmcggompdmngmaaGreatDoorXc
import Derived.Test.YtmcggompdmngmaaGreatDoorXx
set_option linter.all false
open Go.Proofs.Tryz
namespace Go.Proofs.YtmcggompdmngmaaGreatDoor
open Go.Ab
instance T3:z0n prog 3 ⟨1,8,(.int .i64),[],[.int .i64 0]⟩:=⟨by kernel_rfl⟩
instance T4:z0n prog 4 ⟨1,1,.bool,[],[.bool false]⟩:=⟨by kernel_rfl⟩
instance T5:z0n prog 5 ⟨1,1,(.int .u8),[],[.int .u8 0]⟩:=⟨by kernel_rfl⟩
instance T9:z0n prog 9 ⟨1,16,.str,[],[.string ⟨#[]⟩]⟩:=⟨by kernel_rfl⟩
instance T21:z0n prog 21 ⟨1,4,(.int .i32),[],[.int .i32 0]⟩:=⟨by kernel_rfl⟩
instance T22:z0n prog 22 ⟨1,24,(.slice 9),[],[z2n]⟩:=⟨by kernel_rfl⟩
instance T23:z0n prog 23 ⟨1,24,(.slice 4),[],[z2n]⟩:=⟨by kernel_rfl⟩
instance T24:z0n prog 24 ⟨1,24,(.slice 96),[],[z2n]⟩:=⟨by kernel_rfl⟩
instance T26:z0n prog 26 ⟨2,48,.struct,[(0,1),(1,1)],[z2n,z2n]⟩:=⟨by kernel_rfl⟩
instance T29:z0n prog 29 ⟨1,8,(.ptr 133),[],[.pointer none]⟩:=⟨by kernel_rfl⟩
instance T30:z0n prog 30 ⟨1,24,(.slice 3),[],[z2n]⟩:=⟨by kernel_rfl⟩
instance T32:z0n prog 32 ⟨2,48,.struct,[(0,1),(1,1)],[z2n,z2n]⟩:=⟨by kernel_rfl⟩
instance T47:z0n prog 47 ⟨2,8,.struct,[(0,1),(1,1)],[.int .i32 0,.int .i32 0]⟩:=⟨by kernel_rfl⟩
instance T48:z0n prog 48 ⟨1,24,(.slice 47),[],[z2n]⟩:=⟨by kernel_rfl⟩
instance T49:z0n prog 49 ⟨1,24,(.slice 51),[],[z2n]⟩:=⟨by kernel_rfl⟩
instance T51:z0n prog 51 ⟨5,72,.struct,[(0,1),(1,1),(2,1),(3,1),(4,1)],[.int .i64 0,.int .i64 0,.int .i64 0,z2n,z2n]⟩:=⟨by kernel_rfl⟩
instance T66:z0n prog 66 ⟨1,24,(.slice 21),[],[z2n]⟩:=⟨by kernel_rfl⟩
instance T78:z0n prog 78 ⟨1,24,(.slice 30),[],[z2n]⟩:=⟨by kernel_rfl⟩
instance T89:z0n prog 89 ⟨3,72,.struct,[(0,2),(2,1)],[z2n,z2n,z2n]⟩:=⟨by kernel_rfl⟩
instance T96:z0n prog 96 ⟨1,24,(.slice 98),[],[z2n]⟩:=⟨by kernel_rfl⟩
instance T98:z0n prog 98 ⟨3,16,.struct,[(0,1),(1,1),(2,1)],[.int .i32 0,.int .i32 0,.int .i64 0]⟩:=⟨by kernel_rfl⟩
instance T100:z0n prog 100 ⟨1,24,(.slice 103),[],[z2n]⟩:=⟨by kernel_rfl⟩
instance T103:z0n prog 103 ⟨4,32,.struct,[(0,1),(1,1),(2,1),(3,1)],[.int .i32 0,.int .i64 0,.int .i64 0,.bool false]⟩:=⟨by kernel_rfl⟩
instance T106:z0n prog 106 ⟨1,8,(.ptr 114),[],[.pointer none]⟩:=⟨by kernel_rfl⟩
instance T108:z0n prog 108 ⟨1,8,(.int .u64),[],[.int .u64 0]⟩:=⟨by kernel_rfl⟩
instance T110:z0n prog 110 ⟨2,16,.struct,[(0,1),(1,1)],[.bool false,.int .u64 0]⟩:=⟨by kernel_rfl⟩
instance T111:z0n prog 111 ⟨1,24,(.slice 48),[],[z2n]⟩:=⟨by kernel_rfl⟩
instance T112:z0n prog 112 ⟨1,24,(.slice 108),[],[z2n]⟩:=⟨by kernel_rfl⟩
instance T114:z0n prog 114 ⟨5,72,.struct,[(0,1),(1,1),(2,1),(3,1),(4,1)],[z2n,.int .u64 0,.int .u64 0,z2n,.bool false]⟩:=⟨by kernel_rfl⟩
instance T116:z0n prog 116 ⟨1,24,(.slice 121),[],[z2n]⟩:=⟨by kernel_rfl⟩
instance T121:z0n prog 121 ⟨4,24,.struct,[(0,1),(1,1),(2,2)],[.int .i32 0,.int .i32 0,.bool false,.int .u64 0]⟩:=⟨by kernel_rfl⟩
instance T133:z0n prog 133 ⟨3,72,.struct,[(0,1),(1,1),(2,1)],[z2n,z2n,z2n]⟩:=⟨by kernel_rfl⟩
instance T150:z0n prog 150 ⟨4,40,.struct,[(0,1),(1,1),(2,1),(3,1)],[.string ⟨#[]⟩,.int .i64 0,.int .i64 0,.int .i64 0]⟩:=⟨by kernel_rfl⟩
instance T157:z0n prog 157 ⟨3,24,.struct,[(0,1),(1,1),(2,1)],[.int .u64 0,.int .u64 0,.bool false]⟩:=⟨by kernel_rfl⟩
instance T162:z0n prog 162 ⟨1,24,(.slice 110),[],[z2n]⟩:=⟨by kernel_rfl⟩
instance T169:z0n prog 169 ⟨1,8,(.int .u64),[],[.int .u64 0]⟩:=⟨by kernel_rfl⟩
instance T174:z0n prog 174 ⟨2,16,.struct,[(0,1),(1,1)],[.int .i64 0,.int .i64 0]⟩:=⟨by kernel_rfl⟩
instance T178:z0n prog 178 ⟨1,24,(.slice 184),[],[z2n]⟩:=⟨by kernel_rfl⟩
instance T184:z0n prog 184 ⟨4,24,.struct,[(0,1),(1,1),(2,2)],[.int .i32 0,.int .i32 0,.int .i64 0,.int .i64 0]⟩:=⟨by kernel_rfl⟩
instance T189:z0n prog 189 ⟨1,8,(.map 3 3),[],[.map none]⟩:=⟨by kernel_rfl⟩
instance T190:z0n prog 190 ⟨1,24,(.slice 224),[],[z2n]⟩:=⟨by kernel_rfl⟩
instance T197:z0n prog 197 ⟨3,24,.struct,[(0,1),(1,1),(2,1)],[.int .i32 0,.int .i64 0,.int .i64 0]⟩:=⟨by kernel_rfl⟩
instance T219:z0n prog 219 ⟨1,24,(.slice 174),[],[z2n]⟩:=⟨by kernel_rfl⟩
instance T221:z0n prog 221 ⟨1,24,(.slice 5),[],[z2n]⟩:=⟨by kernel_rfl⟩
instance T224:z0n prog 224 ⟨3,16,.struct,[(0,1),(1,1),(2,1)],[.int .i32 0,.int .i32 0,.int .i64 0]⟩:=⟨by kernel_rfl⟩
instance T236:z0n prog 236 ⟨1,24,(.slice 197),[],[z2n]⟩:=⟨by kernel_rfl⟩
instance T251:z0n prog 251 ⟨1,8,(.int .u64),[],[.int .u64 0]⟩:=⟨by kernel_rfl⟩
open Go.Ab Go.Rx
abbrev z2i(x:Int):D:=.lit (.int .i64 x)
abbrev zdm(b:Bool):D:=.lit (.bool b)
abbrev y2l(x:Int):D:=.lit (.int .u64 x)
abbrev z1b(x:Int):D:=.lit (.int .i32 x)
theorem mix:prog.follows .mixedOrders=true:=by kernel_rfl
theorem drop_cons{α:Type}{l:List α}{k:Nat}{x:α}(h:l[k]? =some x):l.drop k=x::l.drop (k+1):=by
 obtain⟨h1,h2⟩:=zA1.1 h
 rw[List.drop_eq_getElem_cons h1,h2]
theorem getD_some{α:Type}{l:List α}{i:Nat}{x y:α}(h:l[i]? =some x):l.getD i y=x:=by simp[List.getD,h]
theorem z5i{α:Type}{l:List α}{k:Nat}{x:α}(h:l[k]? =some x):l.take (k+1)=l.take k++[x]:=by
 rw[List.take_add_one,h];rfl
theorem zc9{x:Int}(h1:-2147483648≤x)(h2:x≤2147483647):IntKind.i32.wrap x=x:=by
 simp[IntKind.wrap,IntKind.bits,IntKind.signed];omega
abbrev rgc(r:Rg):List D:=[z1b r.1,z1b r.2]
abbrev rgs(l:List Rg):D:=.slice (l.map rgc)
mutual
def rxc:Rx→List D
 | .mk op mn mx rs ks=>[z2i op,z2i mn,z2i mx,rgs rs,.slice (rxL ks)]
def rxL:List Rx→List (List D)
 | []=>[]
 | k::ks=>rxc k::rxL ks
end
theorem zua:∀l:List Rx,rxL l=l.map rxc
 | []=>rfl
 | k::ks=>by rw[rxL,zua ks];rfl
theorem z4h(op mn mx:Int)(rs:List Rg)(ks:List Rx):rxc (.mk op mn mx rs ks)=[z2i op,z2i mn,z2i mx,rgs rs,.slice (ks.map rxc)]:=by rw[rxc,zua]
theorem zaq(e:Rx):(rxc e).length=5:=by obtain⟨op,mn,mx,rs,ks⟩:=e;rw[z4h];rfl
abbrev Drx(e:Rx):D:=.agg (rxc e)
abbrev rx5(op mn mx:Int)(rs:List Rg)(ks:List Rx):List D:=[z2i op,z2i mn,z2i mx,rgs rs,.slice (ks.map rxc)]
theorem zbw{ks:List Rx}{i:Nat}{op mn mx:Int}{rs:List Rg}{kk:List Rx}(h:ks[i]? =some (.mk op mn mx rs kk)):(ks.map rxc)[((i:Nat):Int).toNat]? =some (rx5 op mn mx rs kk):=by
 rw[←show rxc (.mk op mn mx rs kk)=rx5 op mn mx rs kk from z4h op mn mx rs kk];exact idx h
mutual
def fit:Rx→Prop
 | .mk _ _ _ rs ks=>rs.length≤9223372036854775807∧ks.length≤9223372036854775807∧y2t ks
def y2t:List Rx→Prop
 | []=>True
 | k::ks=>fit k∧y2t ks
end
theorem z9r:∀ {l:List Rx},y2t l→∀k∈l,fit k
 | [],_,k,hk=>by simp at hk
 | x::l,h,k,hk=>by
  rw[y2t]at h
  rw[zAc]at hk
  rcases hk with rfl|hk
  ·exact h.1
  ·exact z9r h.2 k hk
end Go.Proofs.YtmcggompdmngmaaGreatDoor
