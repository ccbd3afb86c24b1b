/- A part of the proof: A24 to A16. -/
import Derived.Test.YtmcggompdmngmaaGreatDoorYc
import Derived.Test.YtmcggompdmngmaaGreatDoorY1
import Derived.Test.YtmcggompdmngmaaGreatDoorYr
import Derived.Test.YtmcggompdmngmaaGreatDoorYv
import Derived.Test.YtmcggompdmngmaaGreatDoorYy
import Derived.Test.YtmcggompdmngmaaGreatDoorY2
set_option linter.all false
namespace Go.Proofs.YtmcggompdmngmaaGreatDoor
open Go.Ab Go.Ax
set_option maxHeartbeats 20000000
set_option maxRecDepth 100000
attribute [local irreducible] Run Ops Op1 z0u Val Tr z09 z0q NF Rel z1v z1u
structure y67 (F:List Bool) (A:List (List Arc)):Prop where
 len:A.length=F.length
 arc:∀ l∈A,okA none l∧l.length≤2000000∧∀ x∈l,0≤x.1∧x.1≤x.2.1∧x.2.1≤1114111∧0≤x.2.2∧x.2.2<F.length
 few:F.length≤2000000
 pos:0<F.length
 tot:(A.map List.length).sum≤1000000000
def y7h (cl:List Int):Nat→Int→Option Nat
 | 0,_=>none
 | j+1,k=>if cl.getD j 0=k then some j else y7h cl j k
section
variable (F:List Bool) (A:List (List Arc)) (cl:List Int) (m:List (Int × D)) (hA:y67 F A) (hcl:cl.length=F.length) (hm:∀ k,ze1 m k=(y7h cl cl.length k).map fun s=>z2g (s:Nat))
end
theorem ycv {a:Bool × Nat}:∀ β w own v,PR β w own (scP a) v→v=zux a:=fun β w own v h=>zqc (xs:=[.bool a.1,.int .u64 (a.2:Nat)]) β w own v h
theorem zep {l:List Field} {f:Field→Bool × TypeId × Nat} {a b:Bool × TypeId × Nat} (h:l.map f=[a,b]):∃ x y,l=[x,y]∧f x=a∧f y=b:=by
 match l,h with
 | [x,y],h=>simp at h;exact⟨x,y,rfl,h.1,h.2⟩
theorem yay (w:World) (a b:Bool × Nat):(Op.equal 110 (zux a) (zux b)).run Tryz.prog w=.ok (decide (a=b)) w:=by
 have hf:(Tryz.prog.fieldsOf 110).toList.map (fun f=>(f.name == "_",f.type,f.offset))=[(false,4,0),(false,108,1)]:=by kernel_rfl
 have hu:Tryz.prog.underlying 110=some (.struct (Tryz.prog.fieldsOf 110)):=by kernel_rfl
 have hs:Tryz.prog.stoodInHeld 110=false:=by kernel_rfl
 have hbo:Tryz.prog.underlying 4=some .bool:=T4.bool rfl
 have hint:Tryz.prog.underlying 108=some (.int .u64):=T108.int rfl
 have ha4:∀ w,(isAgg 4).run Tryz.prog w=.ok false w:=fun w=>T4.isAgg w
 have ha76:∀ w,(isAgg 108).run Tryz.prog w=.ok false w:=fun w=>T108.isAgg w
 simp only[Op.equal,Op.maxDepth,zux]
 rw[run_equalIn_struct w 9999 110 _ _ hu hs]
 obtain⟨⟨n1,t1,o1⟩,⟨n2,t2,o2⟩,he,e1,e2⟩:=zep hf
 rw[he]
 simp only[Prod.mk.injEq,beq_eq_false_iff_ne,ne_eq] at e1 e2
 have hab:decide (a=b)=(decide (a.1=b.1)&&decide (a.2=b.2)):=by
  rw[Bool.eq_iff_iff];simp[Prod.ext_iff]
 simp only[Op.eqFields,e1.1,e2.1,ne_eq,not_false_eq_true,if_true,e1.2.1,e1.2.2,e2.2.1,e2.2.2,part,Sem.run_bind,ha4,ha76,Result.andThen_ok,Bool.false_eq_true,if_false,hab]
 by_cases h1:a.1=b.1
 · by_cases h2:a.2=b.2 <;> simp[run_equalIn_int _ _ _ _ _ _ _ hint,Go.run_equalIn_bool' _ _ _ _ _ hbo,h1,h2,Int.ofNat_inj]
 · simp[Go.run_equalIn_bool' _ _ _ _ _ hbo,h1]
theorem y8p {P:Program} {kt t1 t2:TypeId} {u v:Value} {d1 d2:TypeDesc} (hu:P.underlying kt=some (.struct (P.fieldsOf kt))) (hf:(P.fieldsOf kt).toList.map (fun f=>(f.name == "_",f.type,f.offset))=[(false,t1,0),(false,t2,1)])
 (h1:P.underlying t1=some d1) (k1:MapKept.IsKey d1 u) (h2:P.underlying t2=some d2) (k2:MapKept.IsKey d2 v) (a1:∀ w,(isAgg t1).run P w=.ok false w) (a2:∀ w,(isAgg t2).run P w=.ok false w) (w:World) (e:Bool):(Instr.checkKey e 10000 kt (.agg #[u,v])).run P w=.ok () w:=by
 obtain⟨⟨n1,t1',o1'⟩,⟨n2,t2',o2'⟩,he,e1,e2⟩:=zep hf
 simp only[Prod.mk.injEq,beq_eq_false_iff_ne,ne_eq] at e1 e2
 obtain⟨e11,rfl,rfl⟩:=e1
 obtain⟨e21,rfl,rfl⟩:=e2
 have c1:=fun n=>MapKept.run_checkKey (w:=w) h1 k1 e n
 have c2:=fun n=>MapKept.run_checkKey (w:=w) h2 k2 e n
 rw[Instr.checkKey]
 simp only[Sem.run_bind,run_underlying hu,Result.andThen_ok]
 rw[← Array.forIn_toList,he]
 simp only[List.forIn_cons,List.forIn_nil,Sem.run_bind,e11,e21,ne_eq,not_false_eq_true,if_true,part,a1,a2,Result.andThen_ok,Bool.false_eq_true,if_false]
 simp[part,c1,c2,a1,a2,e21,e11,Result.andThen]
theorem ycq:zpm Tryz.prog 110 zux:=zpm.of_eq (by rw[show Tryz.prog.underlying 110=some (.struct (Tryz.prog.fieldsOf 110)) by kernel_rfl])
 (fun w e a=>y8p (by kernel_rfl) (by kernel_rfl) (T4.bool rfl) (show MapKept.IsKey .bool (.bool a.1) from trivial) (T108.int rfl) (show MapKept.IsKey (.int .u64) (.int .u64 (a.2:Nat)) from rfl) (fun w=>T4.isAgg w) (fun w=>T108.isAgg w) w e) yay (fun a=>by simp[zux,Instr.sameBits])
end Go.Proofs.YtmcggompdmngmaaGreatDoor
namespace Go.Proofs.YtmcggompdmngmaaGreatDoor
open Go.Ab Go.Ax
set_option maxHeartbeats 20000000
set_option maxRecDepth 100000
attribute [local irreducible] Run Ops Op1 z0u Val Tr z09 z0q NF Rel z1v z1u
namespace XP
abbrev xM (ks:List (Int × Int)):Blk:=.mp ((z8p 0 ks).map fun p=>(ycl p.1,p.2))
end XP
end Go.Proofs.YtmcggompdmngmaaGreatDoor
