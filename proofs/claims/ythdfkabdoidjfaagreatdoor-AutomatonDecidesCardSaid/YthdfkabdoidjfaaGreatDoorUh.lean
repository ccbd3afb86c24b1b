/- A part of the proof: B1 to B3. -/
import Derived.Test.YthdfkabdoidjfaaGreatDoorUc
import Derived.Test.YthdfkabdoidjfaaGreatDoorUn
import Derived.Test.YthdfkabdoidjfaaGreatDoorU6
import Derived.Test.YthdfkabdoidjfaaGreatDoorUm
import Derived.Test.YthdfkabdoidjfaaGreatDoorUy
set_option linter.all false
namespace Go.Proofs.YthdfkabdoidjfaaGreatDoor
open Go.Ab Go.Ax Go.Rx
set_option maxHeartbeats 20000000
set_option maxRecDepth 100000
attribute [local irreducible] Run Ops Op1 z1d Val Tr z08 z13 NF Rel z2h z2g
structure Okn (n:Nat) (a:Au):Prop where
 fit:z57 a
 val:vAu a=0
 few:a.F.length≤n
theorem zcj {a:Au} (h:AuW a):∀ l∈a.A,l.length≤1114112:=fun l hl=>zii (h.arc l hl).1 fun x hx=>by have:=(h.arc l hl).2 x hx;omega
attribute [local irreducible] zb9
theorem zsj {a:Au} (h:AuW a) (hn:a.F.length≤256):z08 Tryz.prog 56 [.d (auD a)] (.d (z56 (z3l a.F a.A))):=by
 have hA:=zmr h hn
 obtain⟨F,A⟩:=a
 exact zpt F A h.len (fun l hl=>⟨by have:=(hA.arc l hl).2.1;omega,fun x hx=>by have:=(h.arc l hl).2 x hx;simp only at this;omega⟩) (by simp only at hn;omega) (by have:=hA.tot;simp only at this;omega)
noncomputable def zix (a:Au):Bool:=!((z3l a.F a.A).getD 0 false)
theorem zmt {a:Au} (h:AuW a):zix a=true↔∀ w,a.acc 0 w=false:=by
 have h1:=zbg h 0
 have h2:=z7n (F:=a.F) (A:=a.A) h.pos
 rw[zix,zA6,← Bool.not_eq_true,h2,h1]
 rfl
theorem zem (F:List Bool) (A:List (List Arc)):(z3l F A).length=F.length:=by simp[z3l]
theorem y67 {a:Au} (h:AuW a):(z3l a.F a.A)[(0:Int).toNat]? =some ((z3l a.F a.A).getD 0 false):=by
 have hp:=h.pos
 have hl:=zem a.F a.A
 show (z3l a.F a.A)[0]? =_
 rw[List.getD,zA0 (by omega)];rfl
theorem zqd (a:Au) (hf:z57 a) (h:vAu a≠0):z08 Tryz.prog 32 [.d (auD a)] (B false):=by
 refine z0g fun H=>?_
 have hv:=z4c a hf
 generalize vAu a=v at *
 obtain⟨F,A⟩:=a
 refine z03 Tryz.func32 (by kernel_rfl) rfl (by simp) ?_
 dsimp only[Tryz.f32]
 repeat' (first|(apply z06;(refine z1i hv ?_))|(apply z0w;(refine z07 z2b ?_))|refine stq ?_|refine fk (fun _=>?_) (fun _=>?_))
 all_goals exact zD138
theorem y04 (a:Au) (hf:z57 a) (h:vAu a=0) (hn:a.F.length≤256):z08 Tryz.prog 32 [.d (auD a)] (B (zix a)):=by
 refine z0g fun H=>?_
 have hW:=z8c h
 have hv:=z4c a hf
 rw[h] at hv
 have hal:=zsj hW hn
 have h0:=y67 hW
 have hl:=zem a.F a.A
 have hp:=hW.pos
 rw[zix]
 generalize (z3l a.F a.A).getD 0 false=x at *
 generalize z3l a.F a.A=L at *
 obtain⟨F,A⟩:=a
 simp only at hl hp
 refine z03 Tryz.func32 (by kernel_rfl) rfl (by simp) ?_
 dsimp only[Tryz.f32]
 repeat' (first|(apply z01;(refine z04 (z0k (ys:=L.map boc) rfl (idx h0)) rfl rfl ?_))|(apply z06;(first|refine z1i hv ?_| refine z1i hal ?_))|(apply z0w;(refine z07 z2b ?_))|refine stq ?_|fail)
 all_goals exact zD138
theorem zgx (a b:Au) (hfa:z57 a) (hfb:z57 b) (h:vAu a≠0∨vAu b≠0):z08 Tryz.prog 31 [.d (auD a),.d (auD b)] (.tup [B false,I .i64 1]):=by
 refine z0g fun H=>?_
 have hva:=z4c a hfa
 have hvb:=z4c b hfb
 generalize vAu a=u at *
 generalize vAu b=v at *
 by_cases h1:u=0
 · subst h1
   have h2:v≠0:=by omega
   exact zD49
 · skip
   exact zD49
theorem zz0 {n m:Nat} {a b:Au} (ha:Okn n a) (hb:Okn m b) (hnm:(n+1)*(m+1)≤256) :
 ∃ r,z08 Tryz.prog 31 [.d (auD a),.d (auD b)] (.tup [B r,I .i64 0])∧(r=true↔∀ w,a.acc 0 w=b.acc 0 w):=by
 have wa:=z8c ha.val
 have wb:=z8c hb.val
 have fa:=ha.few
 have fb:=hb.few
 have hle:(a.F.length+1)*(b.F.length+1)≤(n+1)*(m+1):=Nat.mul_le_mul (by omega) (by omega)
 have la:a.F.length+1≤(a.F.length+1)*(b.F.length+1):=Nat.le_mul_of_pos_right _ (by omega)
 have lb:b.F.length+1≤(a.F.length+1)*(b.F.length+1):=Nat.le_mul_of_pos_left _ (by omega)
 obtain⟨x,x1,x2,x3,x4⟩:=zsy wa wb 4 (by omega)
 have hp:=zg5 (N:=4456450) (a:=1114112) (c:=1114112) (zny 4456450 (by omega)) (by omega) a.F b.F a.A b.A 4 (zmr wa (by omega)) (zmr wb (by omega)) (zcj wa) (zcj wb) (by omega)
 rw[x1,exR] at hp
 refine⟨zix x,?_,?_⟩
 · refine z0g fun H=>?_
   have hva:=z4c a ha.fit
   have hvb:=z4c b hb.fit
   rw[ha.val] at hva
   rw[hb.val] at hvb
   have hal:=zsj x2 (by omega)
   have h0:=y67 x2
   have hl:=zem x.F x.A
   have hpos:=x2.pos
   rw[zix]
   generalize (z3l x.F x.A).getD 0 false=y at *
   generalize z3l x.F x.A=L at *
   clear x1 x2 x4
   obtain⟨F,A⟩:=a
   obtain⟨G,C⟩:=b
   obtain⟨xF,xA⟩:=x
   simp only at hl hpos hp
   refine z03 Tryz.func31 (by kernel_rfl) rfl (by simp) ?_
   dsimp only[Tryz.f31]
   repeat' (first|(apply z01;(refine z04 (z0k (ys:=L.map boc) rfl (idx h0)) rfl rfl ?_))|(apply z06;(first|refine z1i hva ?_| refine z1i hvb ?_| refine z1i hp ?_| refine z1i hal ?_))|(apply z0w;(refine z07 z2b ?_))|refine stq ?_|fail)
   all_goals try (exfalso;first|omega|(simp at *;done)|(simp at *;omega))
   all_goals exact z05 Tryz.func31 _ z2w ⟨rfl,rfl⟩
 · rw[zmt x2]
   constructor
   · intro h w
     have hw:=h w
     rw[x4,zam,zAy (by decide),zAy (by decide),zAy (by decide)] at hw
     cases hx:a.acc 0 w with
     | true =>
      rw[zfj wa w 0 hx,hx] at hw
      cases hy:b.acc 0 w with
      | true=>rfl
      | false=>rw[hy] at hw;cases hw
     | false =>
      cases hy:b.acc 0 w with
      | false=>rfl
      | true=>rw[zfj wb w 0 hy,hx,hy] at hw;cases hw
   · intro h w
     rw[x4,h w,zam,zAy (by decide),zAy (by decide),zAy (by decide)]
     cases b.acc 0 w <;> cases vld w <;> rfl
theorem zyf {n:Nat} {a:Au} (hf:z57 a) (hv:vAu a=0) (h:¬ lgA n a=true):Okn n a :=
 ⟨hf,hv,by have:=(zqn h).1;omega⟩
theorem zzs {n:Int} {a b:Au}:[a,b].any (lgA n)=(lgA n a||lgA n b):=by simp
end Go.Proofs.YthdfkabdoidjfaaGreatDoor
