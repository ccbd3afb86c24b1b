/- A part of the proof: G39 to G29. -/
import Derived.Test.YthdfkabdoidjfaaGreatDoorSz
import Derived.Test.YthdfkabdoidjfaaGreatDoorSc
import Derived.Test.YthdfkabdoidjfaaGreatDoorSx
import Derived.Test.YthdfkabdoidjfaaGreatDoorSq
import Derived.Test.YthdfkabdoidjfaaGreatDoorSr
import Derived.Test.YthdfkabdoidjfaaGreatDoorSp
set_option linter.all false
namespace Go.Proofs.YthdfkabdoidjfaaGreatDoor
open Go.Ab Go.Rx
set_option maxHeartbeats 20000000
set_option maxRecDepth 100000
attribute [local irreducible] Run Ops Op1 z25 Val Tr z0y z1x NF Rel z3j z3l zca
abbrev Uq:=Int × Int × Int × Bool
abbrev uqc (u:Uq):List D:=[z2b u.1,z2t u.2.1,z2t u.2.2.1,z9m u.2.2.2]
def uQ:Nat→List U→List Uq
 | _,[]=>[]
 | i,u::l=>(u.r,(i:Int),(u.n:Int),false)::uQ (i+u.n) l
def okf (u:Uq):Uq:=(u.1,u.2.1,u.2.2.1,!decide (u.1=65533)||decide (u.2.2.1=3))
theorem zx5:∀ (l:List U) (i:Nat),((uQ i l).map okf).all (fun u=>u.2.2.2)=l.all ztq
 | [],i=>rfl
 | u::l,i=>by
  rw[uQ,List.map_cons,List.all_cons,List.all_cons,zx5 l]
  congr 1
  simp only[okf,ztq]
  congr 1
  rw[decide_eq_decide];omega
theorem zqa:∀ (l:List U) (i:Nat),(uQ i l).length=l.length
 | [],i=>rfl
 | u::l,i=>by rw[uQ,zAk,zAk,zqa l]
def inv1 (s:ByteArray) (q:Nat) (l:List Uq):Prop:=(l=[]∧q=0)∨(∃ P r a,l=P++[(r,a,0,false)]∧0≤a∧a≤(q:Int)∧P.length<q∧P++(r,a,(q:Int)-a,false)::uQ q (rst s q)=uQ 0 (rst s 0))
theorem zyw (s:ByteArray) (hs:s.size≤1000000):z0y Tryz.prog 77 [S s] (.d (.slice (((uQ 0 (rst s 0)).map okf).map uqc))):=by
 refine z1p fun H=>?_
 refine z0k Tryz.func77 (by kernel_rfl) rfl (by simp) ?_
 dsimp only[Tryz.f77]
 repeat' (first|(apply z08;(first|refine z0o ?_| refine zdq rfl rfl rfl (by decide) ?_))|(apply z07;(first|refine z0m ?_|apply z09))|(apply z05;(first|apply z06|apply z00|apply z01)))
 all_goals try (exfalso;omega)
 refine z2s 3 1000 117 4 rfl rfl rfl ?_
 refine z19 ?_
 refine z0c (z1v (fun q:Nat × List Uq=>⟨81,[(0,S s),(3,.ref (0,1000)),(8,.ptr (0,8) 0)],[(8,.siter s q.1),(1000,.row 117 4 (q.2.map uqc))],H⟩) (fun q=>q.1≤s.size∧inv1 s q.1 q.2) (fun q=>s.size-q.1) ?_ (0,[]) ⟨zAf _,.inl ⟨rfl,rfl⟩⟩) rfl rfl
 rintro⟨q,l⟩ ⟨i1,i2⟩ ih
 simp only at i1 i2 ih ⊢
 by_cases hlt:q<s.size
 · have hd:=zaj hlt
   have hw:=zda s q hlt
   have hdh:=zrz s q
   rcases i2 with ⟨rfl,rfl⟩|⟨P,r,a,rfl,a0,a1,hpl,heq⟩
   · have ih':=ih (0+(Utf8.decode s 0).2,([((((Utf8.decode s 0).1:Nat):Int),((0:Nat):Int),(0:Int),false)]:List Uq)) ⟨by simp only;omega,.inr ⟨[],_,_,rfl,by simp,by simp only;omega,by simp only[List.length_nil];omega,by
      simp only
      rw[hd,uQ,List.nil_append]
      congr 2
      simp⟩⟩ (by simp only;omega)
     repeat' (first|(apply z08;(first|refine z0o ?_| (apply z13;(first|refine z5n (g:=uqc) rfl rfl (((((Utf8.decode s 0).1:Nat):Int),((0:Nat):Int),(0:Int),false):Uq) rfl rfl rfl rfl rfl rfl rfl (by decide) (by simp) ?_|refine z02 (z7r rfl) rfl rfl ?_))|(apply z1b;(refine z2k ?_))|(apply z2i;(refine z2n rfl ?_))|refine z3r hlt rfl rfl (by decide) ?_))|(apply z07;(first|refine z0m ?_|apply z09))|(apply z05;(first|apply z06|apply z00|refine z1a ?_| refine z0v ?_| apply z04|apply z01|apply z03)))
     all_goals try (exfalso;simp at *;done)
     all_goals refine z2o 36 1000 ?_
     all_goals exact z0c ih' rfl rfl
   · have hix:(P++[(r,a,(0:Int),false)])[((((((P++[(r,a,(0:Int),false)]).map uqc).length:Nat):Int)-1)).toNat]? =some ((r,a,0,false):Uq):=by
      exact zD66
     have hse:(P++[(r,a,(0:Int),false)]).set ((((((P++[(r,a,(0:Int),false)]).map uqc).length:Nat):Int)-1)).toNat ((r,a,(q:Int)-a,false):Uq)=P++[(r,a,(q:Int)-a,false)]:=by
      exact zD66
     have hln:((P++[(r,a,(0:Int),false)]).map uqc).length=P.length+1:=by simp
     have hln2:(P++[(r,a,(q:Int)-a,false)]).length=P.length+1:=by simp
     have ih':=ih (q+(Utf8.decode s q).2,(P++[(r,a,(q:Int)-a,false)])++([((((Utf8.decode s q).1:Nat):Int),((q:Nat):Int),(0:Int),false)]:List Uq)) ⟨by simp only;omega,.inr ⟨P++[(r,a,(q:Int)-a,false)],_,_,rfl,by simp,by simp only;omega,by simp only[zAa,zAn];omega,by
      simp only
      rw[hd,uQ] at heq
      rw[← heq,zAl,List.singleton_append,show (((q+(Utf8.decode s q).2:Nat):Int)-(q:Nat))=((Utf8.decode s q).2:Nat) by omega]⟩⟩ (by simp only;omega)
     repeat' (first|(apply z08;(first|refine z0o ?_| (apply z0a;(refine z02 (z0x (u:=z2t a) hix) rfl rfl ?_))|(apply z0e;(refine z02 z3s rfl rfl ?_))|(apply z0i;(refine z02 (z3h rfl) rfl rfl ?_))|(apply z0r;(refine z02 (z1g z0w) rfl rfl ?_))|(apply z13;(first|refine z3t (g:=uqc) (((((Utf8.decode s q).1:Nat):Int),((q:Nat):Int),(0:Int),false):Uq) rfl ?_| refine z02 (z7r rfl) rfl rfl ?_))|(apply z0d;(refine z3z ((r,a,(q:Int)-a,false):Uq) hix hse ?_))|(apply z1b;(refine z2k ?_))|(apply z2i;(refine z2n rfl ?_))|refine z3r hlt rfl rfl (by decide) ?_))|(apply z07;(first|refine z0m ?_|apply z09))|(apply z05;(first|apply z06|apply z00|refine z1a ?_| apply z04|apply z01|apply z03|refine z0f (fun _=>?_) (fun _=>?_))))
     all_goals try (exfalso;omega)
     all_goals refine z2o 36 1000 ?_
     all_goals exact z0c ih' rfl rfl
 · obtain rfl:q=s.size:=by omega
   have hd:=z6f (s:=s) (i:=s.size) (zAj _)
   obtain⟨L,hL⟩:∃ L,uQ 0 (rst s 0)=L:=⟨_,rfl⟩
   have hLl:L.length≤s.size:=by
    rw[← hL,zqa]
    have:=zkq s s.size 0 (by omega)
    omega
   rw[hL]
   rcases i2 with ⟨rfl,h0⟩|⟨P,r,a,rfl,a0,a1,hpl,heq⟩
   · have hLn:L=[]:=by rw[← hL,z6f (by omega)];rfl
     repeat' (first|(apply z08;(first|refine z0o ?_| (apply z13;(refine z02 (z7r rfl) rfl rfl ?_))|refine z4e hlt rfl rfl (by decide) ?_))|(apply z07;(first|refine z0m ?_|apply z09))|(apply z05;(first|apply z06|apply z00|refine z0v ?_| apply z04|apply z01|refine z0j ?_)))
     all_goals try (exfalso;simp at *;done)
     refine z19 ?_
     refine z0c (z1v (fun k:Nat=>⟨81,[(3,.ref (0,1000)),(57,I .i64 L.length),(58,I .i64 (k:Nat))],[(1000,.row 117 4 (((L.take k).map okf++L.drop k).map uqc))],H⟩) (fun k=>k≤L.length) (fun k=>L.length-k) ?_ 0 (zAf _)) (by rw[hLn];rfl) (by rw[hLn];rfl)
     exact zD6
   · rw[hd,uQ,hL] at heq
     have hix:(P++[(r,a,(0:Int),false)])[((((((P++[(r,a,(0:Int),false)]).map uqc).length:Nat):Int)-1)).toNat]? =some ((r,a,0,false):Uq):=by
      exact zD66
     have hse:(P++[(r,a,(0:Int),false)]).set ((((((P++[(r,a,(0:Int),false)]).map uqc).length:Nat):Int)-1)).toNat ((r,a,(s.size:Int)-a,false):Uq)=P++[(r,a,(s.size:Int)-a,false)]:=by
      exact zD66
     rw[heq] at hse
     have hln:((P++[(r,a,(0:Int),false)]).map uqc).length=P.length+1:=by simp
     repeat' (first|(apply z08;(first|refine z0o ?_| (apply z0a;(refine z02 (z0x (u:=z2t a) hix) rfl rfl ?_))|(apply z0e;(refine z02 z3s rfl rfl ?_))|(apply z0i;(refine z02 (z3h rfl) rfl rfl ?_))|(apply z0r;(refine z02 (z1g z0w) rfl rfl ?_))|(apply z13;(first|refine z02 (z7r rfl) rfl rfl ?_| refine z02 (z56 rfl) rfl rfl ?_))|(apply z0d;(refine z3z ((r,a,(s.size:Int)-a,false):Uq) hix hse ?_))|refine z4e hlt rfl rfl (by decide) ?_))|(apply z07;(first|refine z0m ?_|apply z09))|(apply z05;(first|apply z06|apply z00|refine z0v ?_| apply z04|apply z01|refine z0f (fun _=>?_) (fun _=>?_)| refine z0j ?_)))
     all_goals try (exfalso;omega)
     refine z19 ?_
     refine z0c (z1v (fun k:Nat=>⟨81,[(3,.ref (0,1000)),(57,I .i64 L.length),(58,I .i64 (k:Nat))],[(1000,.row 117 4 (((L.take k).map okf++L.drop k).map uqc))],H⟩) (fun k=>k≤L.length) (fun k=>L.length-k) ?_ 0 (zAf _)) (by rw[show (L.length:Int)=(((L.map uqc).length:Nat):Int) by rw[zA4]];rfl) rfl
     exact zD6
theorem zwb (s:ByteArray) (hs:s.size≤1000000):z0y Tryz.prog 42 [S s] (B (zc5 s)):=by
 refine z1p fun H=>?_
 have hu:=zyw s hs
 have hall:=zx5 (rst s 0) 0
 change _=zc5 s at hall
 have hlen:((uQ 0 (rst s 0)).map okf).length≤s.size:=by
  rw[zA4,zqa]
  have:=zkq s s.size 0 (by omega)
  omega
 generalize (uQ 0 (rst s 0)).map okf=L at *
 rw[← hall]
 refine z0k Tryz.func42 (by kernel_rfl) rfl (by simp) ?_
 dsimp only[Tryz.f42]
 repeat' (first|(apply z08;(first|refine z0o ?_| (apply z13;(refine z02 (z1o rfl) rfl rfl ?_))|(apply z0q;(refine z0z hu ?_))))|(apply z07;(first|refine z0m ?_|apply z09))|(apply z05;(first|apply z06|apply z00|apply z01)))
 all_goals try (exfalso;omega)
 refine z19 ?_
 refine z0c (z1v (fun q:Nat=>⟨16,[(6,.d (.slice (L.map uqc))),(7,I .i64 L.length),(8,I .i64 (q:Nat))],[],H⟩) (fun q=>q≤L.length∧(L.drop q).all (fun u=>u.2.2.2)=L.all (fun u=>u.2.2.2)) (fun q=>L.length-q) ?_ 0 ⟨zAf _,rfl⟩) rfl rfl
 rintro i ⟨i1,i2⟩ ihl
 by_cases hlt:i<L.length
 · obtain⟨u,hui⟩:∃ u,L[i]? =some u:=⟨_,zA0 hlt⟩
   rw[drop_cons hui,List.all_cons] at i2
   have hx:(L.map uqc)[((i:Nat):Int).toNat]? =some (uqc u):=by simp[hui]
   obtain⟨u1,u2,u3,u4⟩:=u
   simp only at i2
   cases u4 with
   | true =>
    rw[Bool.true_and] at i2
    repeat' (first|(apply z08;(first|refine z0o ?_| (apply z0a;(first|refine z02 z1k rfl rfl ?_| refine z02 z2a rfl rfl ?_))|(apply z0e;(refine z02 z0t rfl rfl ?_))|(apply z0i;(refine z02 (z23 (ys:=L.map uqc) rfl hx) rfl rfl ?_))|(apply z0r;(refine z02 (z0s z0w) rfl rfl ?_))|(apply z0d;(refine z29 ?_))|(apply z0g;(refine z0b z1f ?_))))|(apply z07;(first|refine z0m ?_|apply z09))|(apply z05;(first|apply z06|apply z00|refine z0v ?_| apply z04|apply z01|apply z03|refine z0f (fun _=>?_) (fun _=>?_)| refine z0j ?_)))
    all_goals try (exfalso;omega)
    all_goals exact z0c (ihl (i+1) ⟨by omega,i2⟩ (by omega)) rfl rfl
   | false =>
    rw[Bool.false_and] at i2
    rw[← i2]
    repeat' (first|(apply z08;(first|refine z0o ?_| (apply z0a;(first|refine z02 z1k rfl rfl ?_| refine z02 z2a rfl rfl ?_))|(apply z0e;(refine z02 z0t rfl rfl ?_))|(apply z0i;(refine z02 (z23 (ys:=L.map uqc) rfl hx) rfl rfl ?_))|(apply z0d;(refine z29 ?_))|(apply z0g;(refine z0b z1f ?_))))|(apply z07;(first|refine z0m ?_|apply z09))|(apply z05;(first|apply z06|apply z00|refine z1a ?_| apply z04|apply z01|refine z0f (fun _=>?_) (fun _=>?_)| refine z0j ?_)))
    all_goals try (exfalso;omega)
    all_goals exact z0p Tryz.func42 _ z1c ⟨rfl,rfl⟩
 · obtain rfl:i=L.length:=by omega
   rw[zAs] at i2
   rw[← i2]
   repeat' (first|(apply z08;(refine z0o ?_))|(apply z07;(first|refine z0m ?_|apply z09))|(apply z05;(first|apply z06|apply z00|apply z04|apply z01|refine z0f (fun _=>?_) (fun _=>?_)| refine z0j ?_)))
   all_goals try (exfalso;omega)
   all_goals exact z0p Tryz.func42 _ z1c ⟨rfl,rfl⟩
theorem y1h (l:List Rg) (c:Int):inB l c=inR l c:=rfl
theorem zxk:∀ (l:List U) (i:Nat),(unF i l).all okU=l.all ztq
 | [],i=>rfl
 | u::l,i=>by
  rw[unF,List.all_cons,List.all_cons,zxk l]
  congr 1
  simp only[okU,ztq]
  congr 1
  rw[decide_eq_decide];omega
theorem zy2 (S:Nat):∀ (l:List Nat) (i acc:Nat),acc<2 ^ 64→(∀ x∈l,x<2 ^ 64)→nxF S i acc l<2 ^ 64
 | [],i,acc,h,_=>h
 | x::l,i,acc,h,hl=>by
  rw[nxF]
  refine zy2 S l _ _ ?_ (fun y hy=>hl y (by simp[hy]))
  split
  · exact Nat.or_lt_two_pow h (hl x (by simp))
  · exact h
end Go.Proofs.YthdfkabdoidjfaaGreatDoor
