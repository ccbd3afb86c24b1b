/- A part of the proof: Types to Defs. -/
import Derived.Test.YtonhfccmeammbaaGreatDoorUa
import Derived.Test.YtonhfccmeammbaaGreatDoorProg
import Derived.Test.YtonhfccmeammbaaGreatDoorUc
import Derived.Test.YtonhfccmeammbaaGreatDoorUx
set_option linter.all false
namespace Go.Proofs.YtonhfccmeammbaaGreatDoor
open Go.Ab
instance T3:z15 Tryz.prog 3 ⟨1,8,(.int .i64),[],[.int .i64 0]⟩:=⟨by kernel_rfl⟩
instance T4:z15 Tryz.prog 4 ⟨1,1,.bool,[],[.bool false]⟩:=⟨by kernel_rfl⟩
instance T5:z15 Tryz.prog 5 ⟨1,1,(.int .u8),[],[.int .u8 0]⟩:=⟨by kernel_rfl⟩
instance T9:z15 Tryz.prog 9 ⟨1,16,.str,[],[.string ⟨#[]⟩]⟩:=⟨by kernel_rfl⟩
instance T21:z15 Tryz.prog 21 ⟨1,4,(.int .i32),[],[.int .i32 0]⟩:=⟨by kernel_rfl⟩
instance T22:z15 Tryz.prog 22 ⟨1,24,(.slice 3),[],[z1k]⟩:=⟨by kernel_rfl⟩
instance T25:z15 Tryz.prog 25 ⟨1,24,(.slice 79),[],[z1k]⟩:=⟨by kernel_rfl⟩
instance T26:z15 Tryz.prog 26 ⟨1,24,(.slice 30),[],[z1k]⟩:=⟨by kernel_rfl⟩
instance T27:z15 Tryz.prog 27 ⟨1,24,(.slice 66),[],[z1k]⟩:=⟨by kernel_rfl⟩
instance T28:z15 Tryz.prog 28 ⟨1,24,(.slice 84),[],[z1k]⟩:=⟨by kernel_rfl⟩
instance T29:z15 Tryz.prog 29 ⟨1,24,(.slice 55),[],[z1k]⟩:=⟨by kernel_rfl⟩
instance T30:z15 Tryz.prog 30 ⟨1,24,(.slice 9),[],[z1k]⟩:=⟨by kernel_rfl⟩
instance T32:z15 Tryz.prog 32 ⟨7,168,.struct,[(0,1),(1,1),(2,1),(3,1),(4,1),(5,1),(6,1)],[z1k,z1k,z1k,z1k,z1k,z1k,z1k]⟩:=⟨by kernel_rfl⟩
instance T34:z15 Tryz.prog 34 ⟨1,24,(.slice 36),[],[z1k]⟩:=⟨by kernel_rfl⟩
instance T36:z15 Tryz.prog 36 ⟨11,160,.struct,[(0,1),(1,1),(2,1),(3,1),(4,1),(5,1),(6,1),(7,1),(8,1),(9,1),(10,1)],[.int .i64 0,.string ⟨#[]⟩,.string ⟨#[]⟩,.string ⟨#[]⟩,.string ⟨#[]⟩,.string ⟨#[]⟩,.bool false,.int .i64 0,.int .i64 0,z1k,z1k]⟩:=⟨by kernel_rfl⟩
instance T39:z15 Tryz.prog 39 ⟨1,24,(.slice 42),[],[z1k]⟩:=⟨by kernel_rfl⟩
instance T42:z15 Tryz.prog 42 ⟨3,40,.struct,[(0,1),(1,1),(2,1)],[.int .i64 0,.int .i64 0,z1k]⟩:=⟨by kernel_rfl⟩
instance T55:z15 Tryz.prog 55 ⟨4,40,.struct,[(0,1),(1,1),(2,1),(3,1)],[.string ⟨#[]⟩,.int .i64 0,.int .i64 0,.int .i64 0]⟩:=⟨by kernel_rfl⟩
instance T57:z15 Tryz.prog 57 ⟨2,32,.struct,[(0,1),(1,1)],[z1k,.int .i64 0]⟩:=⟨by kernel_rfl⟩
instance T64:z15 Tryz.prog 64 ⟨1,24,(.slice 82),[],[z1k]⟩:=⟨by kernel_rfl⟩
instance T66:z15 Tryz.prog 66 ⟨4,56,.struct,[(0,1),(1,1),(2,1),(3,1)],[.string ⟨#[]⟩,.int .i64 0,.int .i64 0,z1k]⟩:=⟨by kernel_rfl⟩
instance T67:z15 Tryz.prog 67 ⟨1,8,.func,[],[.nilFunc]⟩:=⟨by kernel_rfl⟩
instance T79:z15 Tryz.prog 79 ⟨2,24,.struct,[(0,1),(1,1)],[.string ⟨#[]⟩,.bool false]⟩:=⟨by kernel_rfl⟩
instance T82:z15 Tryz.prog 82 ⟨2,32,.struct,[(0,1),(1,1)],[.string ⟨#[]⟩,.string ⟨#[]⟩]⟩:=⟨by kernel_rfl⟩
instance T84:z15 Tryz.prog 84 ⟨4,56,.struct,[(0,1),(1,1),(2,1),(3,1)],[.string ⟨#[]⟩,.int .i64 0,.int .i64 0,z1k]⟩:=⟨by kernel_rfl⟩
instance T105:z15 Tryz.prog 105 ⟨1,8,.func,[],[.nilFunc]⟩:=⟨by kernel_rfl⟩
instance T107:z15 Tryz.prog 107 ⟨20,344,.struct,[(0,7),(7,11),(18,1),(19,1)],[z1k,z1k,z1k,z1k,z1k,z1k,z1k,.int .i64 0,.string ⟨#[]⟩,.string ⟨#[]⟩,.string ⟨#[]⟩,.string ⟨#[]⟩,.string ⟨#[]⟩,.bool false,.int .i64 0,.int .i64 0,z1k,z1k,.int .i64 0,.int .i64 0]⟩:=⟨by kernel_rfl⟩
instance T110:z15 Tryz.prog 110 ⟨1,24,(.slice 207),[],[z1k]⟩:=⟨by kernel_rfl⟩
instance T111:z15 Tryz.prog 111 ⟨1,24,(.slice 113),[],[z1k]⟩:=⟨by kernel_rfl⟩
instance T113:z15 Tryz.prog 113 ⟨5,72,.struct,[(0,1),(1,1),(2,1),(3,1),(4,1)],[.int .i64 0,.int .i64 0,.int .i64 0,z1k,z1k]⟩:=⟨by kernel_rfl⟩
instance T130:z15 Tryz.prog 130 ⟨1,24,(.slice 105),[],[z1k]⟩:=⟨by kernel_rfl⟩
instance T132:z15 Tryz.prog 132 ⟨1,24,(.slice 137),[],[z1k]⟩:=⟨by kernel_rfl⟩
instance T137:z15 Tryz.prog 137 ⟨4,32,.struct,[(0,1),(1,1),(2,1),(3,1)],[.int .i32 0,.int .i64 0,.int .i64 0,.bool false]⟩:=⟨by kernel_rfl⟩
instance T150:z15 Tryz.prog 150 ⟨4,40,.struct,[(0,1),(1,1),(2,1),(3,1)],[.string ⟨#[]⟩,.int .i64 0,.int .i64 0,.int .i64 0]⟩:=⟨by kernel_rfl⟩
instance T156:z15 Tryz.prog 156 ⟨1,24,(.slice 21),[],[z1k]⟩:=⟨by kernel_rfl⟩
instance T175:z15 Tryz.prog 175 ⟨3,24,.struct,[(0,1),(1,1),(2,1)],[.int .i32 0,.int .i64 0,.int .i64 0]⟩:=⟨by kernel_rfl⟩
instance T182:z15 Tryz.prog 182 ⟨1,8,(.int .u64),[],[.int .u64 0]⟩:=⟨by kernel_rfl⟩
instance T184:z15 Tryz.prog 184 ⟨1,24,(.slice 110),[],[z1k]⟩:=⟨by kernel_rfl⟩
instance T185:z15 Tryz.prog 185 ⟨1,24,(.slice 182),[],[z1k]⟩:=⟨by kernel_rfl⟩
instance T187:z15 Tryz.prog 187 ⟨5,72,.struct,[(0,1),(1,1),(2,1),(3,1),(4,1)],[z1k,.int .u64 0,.int .u64 0,z1k,.bool false]⟩:=⟨by kernel_rfl⟩
instance T204:z15 Tryz.prog 204 ⟨3,24,.struct,[(0,1),(1,1),(2,1)],[.int .u64 0,.int .u64 0,.bool false]⟩:=⟨by kernel_rfl⟩
instance T207:z15 Tryz.prog 207 ⟨2,8,.struct,[(0,1),(1,1)],[.int .i32 0,.int .i32 0]⟩:=⟨by kernel_rfl⟩
instance T208:z15 Tryz.prog 208 ⟨1,24,(.slice 5),[],[z1k]⟩:=⟨by kernel_rfl⟩
end Go.Proofs.YtonhfccmeammbaaGreatDoor
namespace Go.Proofs.YtonhfccmeammbaaGreatDoor
open Go.Ab Go.Rx
abbrev Str:=ByteArray
abbrev z5p (s:Str):D:=.lit (.string s)
abbrev z3c (x:Int):D:=.lit (.int .i64 x)
abbrev zhk (b:Bool):D:=.lit (.bool b)
abbrev zub (x:Int):D:=.lit (.int .u64 x)
abbrev zx2 (x:Int):D:=.lit (.int .i32 x)
theorem mix:Tryz.prog.follows .mixedOrders=true:=by kernel_rfl
theorem drop_cons {α:Type} {l:List α} {k:Nat} {x:α} (h:l[k]? =some x):l.drop k=x::l.drop (k+1):=by
 obtain⟨h1,h2⟩:=zA1.1 h
 rw[List.drop_eq_getElem_cons h1,h2]
theorem getD_some {α:Type} {l:List α} {i:Nat} {x y:α} (h:l[i]? =some x):l.getD i y=x:=by simp[List.getD,h]
theorem zag {α:Type} {l:List α} {k:Nat} {x:α} (h:l[k]? =some x):l.take (k+1)=l.take k++[x]:=by
 rw[List.take_add_one,h];rfl
theorem zu7 {x:Int} (h1:-2147483648≤x) (h2:x≤2147483647):IntKind.i32.wrap x=x:=by
 simp[IntKind.wrap,IntKind.bits,IntKind.signed];omega
abbrev rgc (r:Rg):List D:=[zx2 r.1,zx2 r.2]
abbrev rgs (l:List Rg):D:=.slice (l.map rgc)
mutual
def rxc:Rx→List D
 | .mk op mn mx rs ks=>[z3c op,z3c mn,z3c mx,rgs rs,.slice (rxL ks)]
def rxL:List Rx→List (List D)
 | []=>[]
 | k::ks=>rxc k::rxL ks
end
theorem zm3:∀ l:List Rx,rxL l=l.map rxc
 | []=>rfl
 | k::ks=>by rw[rxL,zm3 ks];rfl
theorem z4o (op mn mx:Int) (rs:List Rg) (ks:List Rx):rxc (.mk op mn mx rs ks)=[z3c op,z3c mn,z3c mx,rgs rs,.slice (ks.map rxc)]:=by rw[rxc,zm3]
theorem ze5 (e:Rx):(rxc e).length=5:=by obtain⟨op,mn,mx,rs,ks⟩:=e;rw[z4o];rfl
abbrev Drx (e:Rx):D:=.agg (rxc e)
abbrev rx5 (op mn mx:Int) (rs:List Rg) (ks:List Rx):List D:=[z3c op,z3c mn,z3c mx,rgs rs,.slice (ks.map rxc)]
theorem zax {ks:List Rx} {i:Nat} {op mn mx:Int} {rs:List Rg} {kk:List Rx} (h:ks[i]? =some (.mk op mn mx rs kk)):(ks.map rxc)[((i:Nat):Int).toNat]? =some (rx5 op mn mx rs kk):=by
 rw[← show rxc (.mk op mn mx rs kk)=rx5 op mn mx rs kk from z4o op mn mx rs kk];exact idx h
mutual
def fit:Rx→Prop
 | .mk _ _ _ rs ks=>rs.length≤9223372036854775807∧ks.length≤9223372036854775807∧znx ks
def znx:List Rx→Prop
 | []=>True
 | k::ks=>fit k∧znx ks
end
theorem z9d:∀ {l:List Rx},znx l→∀ k∈l,fit k
 | [],_,k,hk=>by simp at hk
 | x::l,h,k,hk=>by
  rw[znx] at h
  rw[zAc] at hk
  rcases hk with rfl|hk
  · exact h.1
  · exact z9d h.2 k hk
end Go.Proofs.YtonhfccmeammbaaGreatDoor
