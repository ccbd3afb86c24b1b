/- A part of the proof: G34, G35, G36, G37. -/
import Derived.Test.YtjmbjgecfpggdaaGreatDoorRv
import Derived.Test.YtjmbjgecfpggdaaGreatDoorRw
import Derived.Test.YtjmbjgecfpggdaaGreatDoorRc
import Derived.Lib.LaidU8
import Derived.Test.YtjmbjgecfpggdaaGreatDoorRows
import Derived.OpenShut
import Derived.LaidMore
import Derived.ProofKit
set_option linter.all false
set_option linter.unusedVariables false
set_option linter.unusedSimpArgs false
namespace Go.Proofs.YtjmbjgecfpggdaaGreatDoor
open Go.Ab Go.Rx
set_option maxHeartbeats 20000000
set_option maxRecDepth 100000
attribute [local irreducible] Run Ops Op1 z2r Val Tr z1n z36 NF Rel z5q z5r zad
mutual
/-- whether an expression is larger than the room, and the room that is left -/
def lg : Rx → Int → Bool × Int
 | .mk _ _ _ rs ks, r => if r - (1 + (rs.length : Int)) < 0 then (true, r - (1 + (rs.length : Int))) else lgL ks (r - (1 + (rs.length : Int)))
def lgL : List Rx → Int → Bool × Int
 | [], r => (false, r)
 | k :: ks, r => if (lg k r).1 = true then (true, (lg k r).2) else lgL ks (lg k r).2
end
theorem zvg : (∀ (e : Rx) (r : Int), (lg e r).1 = false → 0 ≤ (lg e r).2 ∧ (lg e r).2 + sz e ≤ r) ∧ ∀ (l : List Rx) (r : Int), 0 ≤ r → (lgL l r).1 = false → 0 ≤ (lgL l r).2 ∧ (lgL l r).2 + szL l ≤ r := by
 refine Rx.ind (fun op mn mx rs ks ih r h => ?_) (fun r h0 _ => by rw [lgL, szL]; simp only; omega) (fun k ks hk ih r h0 h => ?_)
 · rw [lg] at h ⊢
   by_cases hc : r - (1 + (rs.length : Int)) < 0
   · rw [if_pos hc] at h; cases h
   · rw [if_neg hc] at h ⊢
     have := ih _ (by omega) h
     rw [sz]; omega
 · rw [lgL] at h ⊢
   cases hl : (lg k r).1 with
   | true => rw [if_pos hl] at h; cases h
   | false =>
    rw [hl, if_neg (by decide)] at h
    rw [if_neg (by decide)]
    have h1 := hk r hl
    have h2 := ih _ h1.1 h
    rw [szL]; omega
theorem zlv {r n : Int} (h0 : 0 ≤ r) (h1 : r ≤ 600) (h2 : 0 ≤ n) (h3 : n ≤ 9223372036854775807) : IntKind.i64.wrap (r - IntKind.i64.wrap (1 + n)) = r - (1 + n) := by
 simp [IntKind.wrap, IntKind.bits, IntKind.signed]; omega
theorem zpd {P : Program} {ty tx ty' : TypeId} {x y : Operand} {k : IntKind} {a b c : Int} (h : k.wrap (a - b) = c) : Val P (.binOp .sub tx x y ty') ty [(x, I k a), (y, I k b)] [] (I k c) := by
 subst h; exact zs8
theorem zrb : ∀ (e : Rx), fit e → ∀ (r : Int), 0 ≤ r → r ≤ 600 → ∀ (e0 X : Nat), z36 Tryz.prog 24 [.d (Drx e), .ptr (e0, X) 0] [((e0, X), .box [I .i64 r])] [((e0, X), .box [I .i64 (lg e r).2])] (B (lg e r).1) := by
 refine Rx.ind' fun op mn mx rs ks ih hfit r h0 h6 e0 X => ?_
 obtain ⟨hf1, hf2, hf3⟩ := hfit
 rw [z2h]
 refine z42 fun H hH => ?_
 have hX : H e0 X = some (.box [I .i64 r]) := hH ((e0, X), .box [I .i64 r]) (by simp)
 have hw := zlv h0 h6 (Int.natCast_nonneg rs.length) (by omega)
 obtain ⟨F, hF⟩ : ∃ F, lg (.mk op mn mx rs ks) r = F := ⟨_, rfl⟩
 rw [hF]
 rw [lg] at hF
 obtain ⟨r1, hr1⟩ : ∃ r1, r - (1 + (rs.length : Int)) = r1 := ⟨_, rfl⟩
 rw [hr1] at hF hw
 refine z16 Tryz.func24 (by kernel_rfl) rfl (by simp) ?_
 dsimp only [Tryz.f24]
 have hX1 : upd H (e0, X) (.box [I .i64 r1]) e0 X = some (.box [I .i64 r1]) := z2i _ (e0, X) _
 by_cases hneg : r1 < 0
 · rw [if_pos hneg] at hF
   subst hF
   repeat' (first | (apply z0e; (first | refine z13 rfl (by decide) ?_ | (apply z09; (first | refine z14 rfl hX1 rfl rfl rfl rfl (by decide) ?_ | refine z00 (z0k rfl rfl rfl rfl) rfl rfl (by decide) ?_)) | (apply z08; (refine z00 (z03 rfl rfl) rfl rfl (by decide) ?_)) | (apply z1k; (refine z00 (z1p rfl) rfl rfl (by decide) ?_)) | (apply z0i; (refine z18 (raw' := .box [I .i64 r1]) rfl hX rfl rfl rfl rfl rfl rfl ?_)) | (apply z1y; (refine z0j (z27 rfl rfl (by decide)) ?_)))) | (apply z0f; (first | refine z0z ?_ | apply z0c)) | (apply z0d; (first | apply z0h | apply z01 | apply z06 | apply z02 | apply z3w | refine z1o rfl (fun _ => ?_) (fun _ => ?_))) | (apply z3x; (first | refine z47 rfl (by first | exact rfl | exact ⟨_, rfl, rfl, rfl⟩) (by decide) ?_ | (apply z1g; (first | refine z6s (by first | exact rfl | exact ⟨_, rfl, rfl, rfl⟩) rfl hX rfl rfl rfl rfl (by decide) ?_ | refine z0n (z0k rfl rfl rfl rfl) (by first | exact rfl | exact ⟨_, rfl, rfl, rfl⟩) rfl rfl (by decide) ?_)) | (apply z1b; (refine z0n (z03 rfl rfl) (by first | exact rfl | exact ⟨_, rfl, rfl, rfl⟩) rfl rfl (by decide) ?_)) | (apply z4y; (first | refine z0n zoj (by first | exact rfl | exact ⟨_, rfl, rfl, rfl⟩) rfl rfl (by decide) ?_ | refine z0n (zpd hw) (by first | exact rfl | exact ⟨_, rfl, rfl, rfl⟩) rfl rfl (by decide) ?_)) | (apply z4h; (refine z0n (z1p rfl) (by first | exact rfl | exact ⟨_, rfl, rfl, rfl⟩) rfl rfl (by decide) ?_)) | (apply z3v; ((refine zh4 mix (by kernel_rfl) ?_) /- zc5 -/)))))
   all_goals try (exfalso; omega)
   all_goals exact z07 Tryz.func24 _ (z0a rfl rfl) ⟨rfl, rfl⟩
 · rw [if_neg hneg] at hF
   repeat' (first | (apply z0e; (first | refine z13 rfl (by decide) ?_ | (apply z09; (first | refine z14 rfl hX1 rfl rfl rfl rfl (by decide) ?_ | refine z00 (z0k rfl rfl rfl rfl) rfl rfl (by decide) ?_)) | (apply z08; (refine z00 (z03 rfl rfl) rfl rfl (by decide) ?_)) | (apply z1k; (refine z00 (z1p rfl) rfl rfl (by decide) ?_)) | (apply z0i; (refine z18 (raw' := .box [I .i64 r1]) rfl hX rfl rfl rfl rfl rfl rfl ?_)) | (apply z1y; (refine z0j (z27 rfl rfl (by decide)) ?_)))) | (apply z0f; (first | refine z0z ?_ | apply z0c)) | (apply z0d; (first | apply z0h | apply z01 | apply z06 | apply z02 | apply z3w | refine z1o rfl (fun _ => ?_) (fun _ => ?_))) | (apply z3x; (first | refine z47 rfl (by first | exact rfl | exact ⟨_, rfl, rfl, rfl⟩) (by decide) ?_ | (apply z1g; (first | refine z6s (by first | exact rfl | exact ⟨_, rfl, rfl, rfl⟩) rfl hX rfl rfl rfl rfl (by decide) ?_ | refine z0n (z0k rfl rfl rfl rfl) (by first | exact rfl | exact ⟨_, rfl, rfl, rfl⟩) rfl rfl (by decide) ?_)) | (apply z1b; (refine z0n (z03 rfl rfl) (by first | exact rfl | exact ⟨_, rfl, rfl, rfl⟩) rfl rfl (by decide) ?_)) | (apply z4y; (first | refine z0n zoj (by first | exact rfl | exact ⟨_, rfl, rfl, rfl⟩) rfl rfl (by decide) ?_ | refine z0n (zpd hw) (by first | exact rfl | exact ⟨_, rfl, rfl, rfl⟩) rfl rfl (by decide) ?_)) | (apply z4h; (refine z0n (z1p rfl) (by first | exact rfl | exact ⟨_, rfl, rfl, rfl⟩) rfl rfl (by decide) ?_)) | (apply z3v; ((refine zh4 mix (by kernel_rfl) ?_) /- zc5 -/)))))
   all_goals try (exfalso; omega)
   refine z2b ?_
   refine z0y (z3e (fun q : Nat × Int => ⟨31, [(1, .ptr (e0 + 1, X) 0), (21, .d (.slice (ks.map rxc))), (22, I .i64 ks.length), (23, I .i64 (q.1 : Nat))], [], upd H (e0, X) (.box [I .i64 q.2])⟩) (fun q => q.1 ≤ ks.length ∧ lgL (ks.drop q.1) q.2 = F ∧ 0 ≤ q.2 ∧ q.2 ≤ 600) (fun q => ks.length - q.1) ?_ (0, r1) ⟨Nat.zero_le _, hF, by simp only; omega, by simp only; omega⟩) rfl rfl
   rintro ⟨i, a⟩ ⟨i1, i2, i3, i4⟩ ihl
   simp only at i1 i2 i3 i4 ihl ⊢
   by_cases hlt : i < ks.length
   · obtain ⟨k, hk⟩ : ∃ k, ks[i]? = some k := ⟨_, List.getElem?_eq_getElem hlt⟩
     have hc := ih k (List.mem_of_getElem? hk) (z3o hf3 k (List.mem_of_getElem? hk)) a i3 i4 (e0 + 1) X
     rw [drop_cons hk, lgL] at i2
     have hsz := zvg.1 k a
     generalize lg k a = S at *
     obtain ⟨S1, S2⟩ := S
     simp only at i2 hsz hc
     obtain ⟨op', mn', mx', rs', ks'⟩ := k
     rw [z2h] at hc
     have hXa : upd H (e0, X) (.box [I .i64 a]) e0 X = some (.box [I .i64 a]) := z2i _ (e0, X) _
     cases S1 with
     | true =>
      rw [if_pos rfl] at i2
      subst i2
      repeat' (first | (apply z0e; (first | refine z13 rfl (by decide) ?_ | (apply z09; (first | refine z00 (z0w rfl rfl) rfl rfl (by decide) ?_ | refine z00 (z1a rfl rfl rfl rfl) rfl rfl (by decide) ?_)) | (apply z1c; (refine z00 (z0t (ys := ks.map rxc) rfl (by omega) (z3l hk) rfl) rfl rfl (by decide) ?_)) | (apply z0l; (refine z34 hc rfl hXa (by decide) ?_)) | (apply z0i; (refine z0b rfl rfl rfl rfl rfl rfl ?_)) | (apply z0q; (refine z0j (z0p rfl rfl (by decide)) ?_)))) | (apply z0f; (first | refine z0z ?_ | apply z0c)) | (apply z0d; (first | apply z0h | apply z01 | refine z0o rfl ?_ | apply z06 | apply z02 | refine z1o rfl (fun _ => ?_) (fun _ => ?_) | refine z0r rfl ?_)))
      all_goals try (exfalso; omega)
      all_goals (rw [z7d]; exact z07 Tryz.func24 _ (z0a rfl rfl) ⟨rfl, rfl⟩)
     | false =>
      rw [if_neg (by decide)] at i2
      have hs2 := hsz rfl
      have ihl' := ihl (i + 1, S2) ⟨by simp only; omega, i2, by simp only; omega, by simp only; omega⟩ (by simp only; omega)
      repeat' (first | (apply z0e; (first | refine z13 rfl (by decide) ?_ | (apply z09; (first | refine z00 (z0w rfl rfl) rfl rfl (by decide) ?_ | refine z00 (z1a rfl rfl rfl rfl) rfl rfl (by decide) ?_)) | (apply z1c; (refine z00 (z0t (ys := ks.map rxc) rfl (by omega) (z3l hk) rfl) rfl rfl (by decide) ?_)) | (apply z19; (refine z00 (z1e (z1s (by omega) (by omega))) rfl rfl (by decide) ?_)) | (apply z0l; (refine z34 hc rfl hXa (by decide) ?_)) | (apply z0i; (refine z0b rfl rfl rfl rfl rfl rfl ?_)) | (apply z0q; (refine z0j (z0p rfl rfl (by decide)) ?_)))) | (apply z0f; (first | refine z0z ?_ | apply z0c)) | (apply z0d; (first | apply z0h | apply z01 | refine z0g rfl ?_ | apply z06 | apply z02 | apply z04 | refine z1o rfl (fun _ => ?_) (fun _ => ?_) | refine z0r rfl ?_)))
      all_goals try (exfalso; omega)
      all_goals (rw [z7d]; exact z0y ihl' rfl rfl)
   · obtain rfl : i = ks.length := by omega
     rw [List.drop_length, lgL] at i2
     subst i2
     repeat' (first | (apply z0e; (refine z13 rfl (by decide) ?_)) | (apply z0f; (first | refine z0z ?_ | apply z0c)) | (apply z0d; (first | apply z0h | apply z01 | apply z06 | apply z02 | refine z1o rfl (fun _ => ?_) (fun _ => ?_) | refine z0r rfl ?_)))
     all_goals try (exfalso; omega)
     all_goals exact z07 Tryz.func24 _ (z0a rfl rfl) ⟨rfl, rfl⟩
/-- whether one of some expressions is large -/
def zpn (l : List Rx) : Bool := l.any fun e => (lg e 600).1
theorem zu1 (l : List Rx) (hf : zcv l) (hl : l.length ≤ 9223372036854775807) : z1n Tryz.prog 10 [.d (.slice (l.map rxc))] (B (zpn l)) := by
 refine z1u fun H => ?_
 refine z16 Tryz.func10 (by kernel_rfl) rfl (by simp) ?_
 dsimp only [Tryz.f10]
 repeat' (first | (apply z0e; (first | refine z13 rfl (by decide) ?_ | (apply z1k; (refine z00 (z1p rfl) rfl rfl (by decide) ?_)))) | (apply z0f; (first | refine z0z ?_ | apply z0c)) | (apply z0d; (first | apply z0h | apply z01 | apply z02)))
 all_goals try (exfalso; omega)
 refine z2b ?_
 refine z0y (z3e (fun q : Nat => ⟨15, [(6, .d (.slice (l.map rxc))), (7, I .i64 l.length), (8, I .i64 (q : Nat))], [], H⟩) (fun q => q ≤ l.length ∧ zpn (l.drop q) = zpn l) (fun q => l.length - q) ?_ 0 ⟨Nat.zero_le _, rfl⟩) rfl rfl
 rintro i ⟨i1, i2⟩ ihl
 by_cases hlt : i < l.length
 · obtain ⟨k, hk⟩ : ∃ k, l[i]? = some k := ⟨_, List.getElem?_eq_getElem hlt⟩
   have hc := zrb k (z3o hf k (List.mem_of_getElem? hk)) 600 (by decide) (by decide) 0 5
   rw [drop_cons hk, zpn, List.any_cons, ← zpn] at i2
   generalize lg k 600 = S at *
   obtain ⟨S1, S2⟩ := S
   simp only at i2 hc
   obtain ⟨op', mn', mx', rs', ks'⟩ := k
   rw [z2h] at hc
   cases S1 with
   | true =>
    rw [Bool.true_or] at i2
    rw [← i2]
    repeat' (first | (apply z0e; (first | refine z13 rfl (by decide) ?_ | (apply z09; (first | refine z00 (z0w rfl rfl) rfl rfl (by decide) ?_ | refine z00 (z1a rfl rfl rfl rfl) rfl rfl (by decide) ?_)) | (apply z1c; (refine z00 (z0t (ys := l.map rxc) rfl (by omega) (z3l hk) rfl) rfl rfl (by decide) ?_)) | (apply z0l; (refine z6w hc rfl rfl (by decide) ?_)) | (apply z0i; (refine z0b rfl rfl rfl rfl rfl rfl ?_)) | (apply z0q; (refine z0j (z0p rfl rfl (by decide)) ?_)))) | (apply z0f; (first | refine z0z ?_ | apply z0c)) | (apply z0d; (first | apply z0h | apply z01 | refine z0o rfl ?_ | apply z06 | apply z02 | refine z1o rfl (fun _ => ?_) (fun _ => ?_) | refine z0r rfl ?_)))
    all_goals try (exfalso; omega)
    all_goals exact z07 Tryz.func10 _ (z0a rfl rfl) ⟨rfl, rfl⟩
   | false =>
    rw [Bool.false_or] at i2
    repeat' (first | (apply z0e; (first | refine z13 rfl (by decide) ?_ | (apply z09; (first | refine z00 (z0w rfl rfl) rfl rfl (by decide) ?_ | refine z00 (z1a rfl rfl rfl rfl) rfl rfl (by decide) ?_)) | (apply z1c; (refine z00 (z0t (ys := l.map rxc) rfl (by omega) (z3l hk) rfl) rfl rfl (by decide) ?_)) | (apply z19; (refine z00 (z1e (z1s (by omega) (by omega))) rfl rfl (by decide) ?_)) | (apply z0l; (refine z6w hc rfl rfl (by decide) ?_)) | (apply z0i; (refine z0b rfl rfl rfl rfl rfl rfl ?_)) | (apply z0q; (refine z0j (z0p rfl rfl (by decide)) ?_)))) | (apply z0f; (first | refine z0z ?_ | apply z0c)) | (apply z0d; (first | apply z0h | apply z01 | refine z0g rfl ?_ | apply z06 | apply z02 | apply z04 | refine z1o rfl (fun _ => ?_) (fun _ => ?_) | refine z0r rfl ?_)))
    all_goals try (exfalso; omega)
    all_goals exact z0y (ihl (i + 1) ⟨by omega, i2⟩ (by omega)) rfl rfl
 · obtain rfl : i = l.length := by omega
   rw [List.drop_length] at i2
   rw [← i2]
   repeat' (first | (apply z0e; (refine z13 rfl (by decide) ?_)) | (apply z0f; (first | refine z0z ?_ | apply z0c)) | (apply z0d; (first | apply z0h | apply z01 | apply z06 | apply z02 | refine z1o rfl (fun _ => ?_) (fun _ => ?_) | refine z0r rfl ?_)))
   all_goals try (exfalso; omega)
   all_goals exact z07 Tryz.func10 _ (z0a rfl rfl) ⟨rfl, rfl⟩
end Go.Proofs.YtjmbjgecfpggdaaGreatDoor
namespace Go.Proofs.YtjmbjgecfpggdaaGreatDoor
open Go.Ab Go.Rx
set_option maxHeartbeats 20000000
set_option maxRecDepth 100000
attribute [local irreducible] Run Ops Op1 z2r Val Tr z1n z36 NF Rel z5q z5r zad
theorem zfz (e : Rx) (hf : fit e) : z1n Tryz.prog 20 [.d (Drx e)] (I .i64 (val e)) := by
 refine z1u fun H => ?_
 have hsh := zqr e hf 1 (by decide) (by decide)
 have hvs := zue e
 have hss := zjm.1 e 1 (by decide)
 have hpo := zes e hf
 obtain ⟨V, hV⟩ : ∃ V, val e = V := ⟨_, rfl⟩
 rw [hV] at hvs ⊢
 have hvn : ¬ (200 < (sh e 1).1 ∨ 40 < (sh e 1).2.1) → (sh e 1).2.2 = true → vns e = true := fun h1 h2 => by
  by_cases hc : (1 : Int) + dp e ≤ 41 ∧ sz e ≤ 200
  · rw [if_pos hc] at hss; rw [hss] at h2; exact h2
  · rw [if_neg hc] at hss; exact absurd hss h1
 generalize sh e 1 = S at *
 obtain ⟨n, c, b⟩ := S
 simp only at hvs hvn
 by_cases h1 : 200 < n ∨ 40 < c
 · rw [if_pos h1] at hvs
   subst hvs
   obtain ⟨op, mn, mx, rs, ks⟩ := e
   rw [z2h] at hsh ⊢
   dsimp only [shv] at hsh
   refine z16 Tryz.func20 (by kernel_rfl) rfl (by simp) ?_
   dsimp only [Tryz.f20]
   repeat' (first | (apply z0e; (first | refine z13 rfl (by decide) ?_ | (apply z09; (refine z00 (z2g rfl rfl rfl) rfl rfl (by decide) ?_)) | (apply z0l; (refine z1z hsh rfl (by decide) ?_)) | (apply z1y; (refine z0j (z27 rfl rfl (by decide)) ?_)))) | (apply z0f; (first | refine z0z ?_ | apply z0c | refine z2e rfl rfl (by decide) ?_ | refine z0u rfl rfl (fun _ => ?_) (fun _ => ?_))) | (apply z0d; (first | apply z0h | apply z01 | refine z0o rfl ?_ | apply z02 | refine z1o rfl (fun _ => ?_) (fun _ => ?_) | refine z6t rfl (fun _ => ?_) (fun _ => ?_))))
   all_goals try (exfalso; omega)
   all_goals exact z07 Tryz.func20 _ (z0a rfl rfl) ⟨rfl, rfl⟩
 · rw [if_neg h1] at hvs
   cases b with
   | false =>
    rw [if_pos rfl] at hvs
    subst hvs
    obtain ⟨op, mn, mx, rs, ks⟩ := e
    rw [z2h] at hsh ⊢
    dsimp only [shv] at hsh
    refine z16 Tryz.func20 (by kernel_rfl) rfl (by simp) ?_
    dsimp only [Tryz.f20]
    repeat' (first | (apply z0e; (first | refine z13 rfl (by decide) ?_ | (apply z09; (refine z00 (z2g rfl rfl rfl) rfl rfl (by decide) ?_)) | (apply z0l; (refine z1z hsh rfl (by decide) ?_)) | (apply z1y; (refine z0j (z27 rfl rfl (by decide)) ?_)))) | (apply z0f; (first | refine z0z ?_ | apply z0c | refine z2e rfl rfl (by decide) ?_ | refine z0u rfl rfl (fun _ => ?_) (fun _ => ?_))) | (apply z0d; (first | apply z0h | apply z01 | refine z0o rfl ?_ | apply z02 | refine z1o rfl (fun _ => ?_) (fun _ => ?_))))
    all_goals try (exfalso; omega)
    all_goals exact z07 Tryz.func20 _ (z0a rfl rfl) ⟨rfl, rfl⟩
   | true =>
    rw [if_neg (by decide)] at hvs
    have hpo := hpo (hvn h1 rfl)
    generalize ps 1048576 e = P at *
    obtain ⟨op, mn, mx, rs, ks⟩ := e
    rw [z2h] at hsh hpo ⊢
    dsimp only [shv] at hsh
    subst hvs
    refine z16 Tryz.func20 (by kernel_rfl) rfl (by simp) ?_
    dsimp only [Tryz.f20]
    by_cases hp : 64 < P
    · rw [if_pos hp]
      repeat' (first | (apply z0e; (first | refine z13 rfl (by decide) ?_ | (apply z09; (refine z00 (z2g rfl rfl rfl) rfl rfl (by decide) ?_)) | (apply z0l; (first | refine z1z hsh rfl (by decide) ?_ | refine z1z hpo rfl (by decide) ?_)) | (apply z1y; (refine z0j (z27 rfl rfl (by decide)) ?_)))) | (apply z0f; (first | refine z0z ?_ | apply z0c | refine z2e rfl rfl (by decide) ?_ | refine z0u rfl rfl (fun _ => ?_) (fun _ => ?_))) | (apply z0d; (first | apply z0h | apply z01 | refine z0o rfl ?_ | refine z0g rfl ?_ | apply z06 | apply z02 | apply z04 | refine z1o rfl (fun _ => ?_) (fun _ => ?_))))
      all_goals try (exfalso; omega)
      all_goals exact z07 Tryz.func20 _ (z0a rfl rfl) ⟨rfl, rfl⟩
    · rw [if_neg hp]
      repeat' (first | (apply z0e; (first | refine z13 rfl (by decide) ?_ | (apply z09; (refine z00 (z2g rfl rfl rfl) rfl rfl (by decide) ?_)) | (apply z0l; (first | refine z1z hsh rfl (by decide) ?_ | refine z1z hpo rfl (by decide) ?_)) | (apply z1y; (refine z0j (z27 rfl rfl (by decide)) ?_)))) | (apply z0f; (first | refine z0z ?_ | apply z0c | refine z2e rfl rfl (by decide) ?_ | refine z0u rfl rfl (fun _ => ?_) (fun _ => ?_))) | (apply z0d; (first | apply z0h | apply z01 | refine z0o rfl ?_ | refine z0g rfl ?_ | apply z06 | apply z02 | apply z04 | refine z1o rfl (fun _ => ?_) (fun _ => ?_))))
      all_goals try (exfalso; omega)
      all_goals exact z07 Tryz.func20 _ (z0a rfl rfl) ⟨rfl, rfl⟩
end Go.Proofs.YtjmbjgecfpggdaaGreatDoor
namespace Go.Proofs.YtjmbjgecfpggdaaGreatDoor
open Go.Ab Go.Rx Go.ChangeShapes Go.WideShapes Go.ChangeAt Go.RowKit
set_option maxHeartbeats 20000000
set_option maxRecDepth 100000
theorem zw5 : fieldTypes Tryz.prog 25 = some [3, 3, 3, 22, 23] := by kernel_rfl
theorem zwg : Tryz.prog.underlying 23 = some (.slice 25) := by kernel_rfl
theorem zvx {ds : List D} (h : ShL Tryz.prog [21, 21] ds) : ∃ a : Rg, ds = rgc a := by
 obtain ⟨a, _, rfl, h1, b, _, rfl, h2, rfl⟩ := h
 obtain ⟨x, rfl, _⟩ := h1.inv_int (k := .i32) (by kernel_rfl)
 obtain ⟨y, rfl, _⟩ := h2.inv_int (k := .i32) (by kernel_rfl)
 exact ⟨(x, y), rfl⟩
theorem zv7 {ds : List D} (h : Sh Tryz.prog 22 ds) : ∃ l : List Rg, ds = [rgs l] ∧ l.length ≤ 9223372036854775807 := by
 obtain ⟨l, rfl, hl, _⟩ := h.inv_list (e := 52) rgc (fun _ => True) (by kernel_rfl) fun x hx => by
  obtain ⟨a, rfl⟩ := zvx (hx.inv_fields (ts := [21, 21]) (by kernel_rfl))
  exact ⟨a, rfl, trivial⟩
 exact ⟨l, rfl, hl⟩
theorem zmb : ∀ (xs : List (List D)), (∀ x ∈ xs, ∃ e, x = rxc e ∧ fit e) → ∃ l : List Rx, xs = l.map rxc ∧ zcv l
 | [], _ => ⟨[], rfl, by rw [zcv]; trivial⟩
 | x :: xs, h => by
  obtain ⟨e, rfl, he⟩ := h x (by simp)
  obtain ⟨l, rfl, hl⟩ := zmb xs fun y hy => h y (by simp [hy])
  exact ⟨e :: l, rfl, by rw [zcv]; exact ⟨he, hl⟩⟩
theorem zve {t : TypeId} {ds : List D} (h : Sh Tryz.prog t ds) : (t = 25 → ∃ e, ds = rxc e ∧ fit e) ∧ (t = 23 → ∃ l : List Rx, ds = [.slice (l.map rxc)] ∧ zcv l ∧ l.length ≤ 9223372036854775807) := by
 obtain ⟨fs25, u25, m25⟩ := z5k zw5
 have u23 := zwg
 induction h with
 | int t k z hu h1 h2 =>
  constructor
  · rintro rfl; rw [u25] at hu; simp at hu
  · rintro rfl; rw [u23] at hu; simp at hu
 | bool t b hu =>
  constructor
  · rintro rfl; rw [u25] at hu; simp at hu
  · rintro rfl; rw [u23] at hu; simp at hu
 | str t s hu hs =>
  constructor
  · rintro rfl; rw [u25] at hu; simp at hu
  · rintro rfl; rw [u23] at hu; simp at hu
 | slice t e xs hu hl hx ih =>
  constructor
  · rintro rfl; rw [u25] at hu; simp at hu
  · rintro rfl
    rw [u23] at hu
    simp only [Option.some.injEq, TypeDesc.slice.injEq] at hu
    subst hu
    obtain ⟨l, rfl, hf⟩ := zmb xs fun x hxx => (ih x hxx).1 rfl
    refine ⟨l, rfl, hf, ?_⟩
    rw [List.length_map] at hl
    simp only [maxLen] at hl
    omega
 | struct t fs parts hu hl hp ih =>
  constructor
  · rintro rfl
    rw [u25] at hu
    simp only [Option.some.injEq, TypeDesc.struct.injEq] at hu
    subst hu
    simp only [] at m25
    match fs, m25, hl, hp, ih with
    | [f0, f1, f2, f3, f4], m25, hl, hp, ih =>
     simp only [List.map_cons, List.map_nil, List.cons.injEq, and_true] at m25
     obtain ⟨e0, e1, e2, e3, e4⟩ := m25
     match parts, hl, hp, ih with
     | [p0, p1, p2, p3, p4], _, hp, ih =>
      have q0 := hp 0 f0 p0 rfl rfl
      have q1 := hp 1 f1 p1 rfl rfl
      have q2 := hp 2 f2 p2 rfl rfl
      have q3 := hp 3 f3 p3 rfl rfl
      have q4 := (ih 4 f4 p4 rfl rfl).2 e4
      rw [e0] at q0
      rw [e1] at q1
      rw [e2] at q2
      rw [e3] at q3
      obtain ⟨x0, rfl, _⟩ := q0.inv_int (k := .i64) (by kernel_rfl)
      obtain ⟨x1, rfl, _⟩ := q1.inv_int (k := .i64) (by kernel_rfl)
      obtain ⟨x2, rfl, _⟩ := q2.inv_int (k := .i64) (by kernel_rfl)
      obtain ⟨rs, rfl, hrs⟩ := zv7 q3
      obtain ⟨ks, rfl, hks, hkl⟩ := q4
      refine ⟨.mk x0 x1 x2 rs ks, by rw [z2j]; rfl, ?_⟩
      rw [fit]
      exact ⟨hrs, hkl, hks⟩
  · rintro rfl; rw [u23] at hu; simp at hu
abbrev zjw : Nat → Prop := fun g => g = 0 ∨ g = 1
theorem ztf {H : Type} {enc : TypeId × Value → H} {W : World} {v : Value} {d : DataW H} {p : List MemPlace} {r : Reach} {b0 : Nat} (hsep : ∀ g o v, zjw g → W.cell? ⟨g, o, none⟩ = some v → ∃ z, v = .int .u8 z) (hval : Value.okWide Tryz.prog W r b0 25 v)
  (h : DataW.Trod enc Tryz.prog W 0 (fun _ => true) true 25 v d p) : ∃ e : Rx, fit e ∧ DR W zjw (Drx e) v := by
 obtain ⟨ds, h1, h2, _⟩ := zmu hsep (G := [25, 3, 22, 52, 21, 23]) (by kernel_rfl) (by kernel_rfl) (by decide) hval h
 obtain ⟨fs, u25, _⟩ := z5k zw5
 obtain ⟨e, rfl, he⟩ := (zve h1).1 rfl
 exact ⟨e, he, h2 ⟨fs, u25⟩⟩
end Go.Proofs.YtjmbjgecfpggdaaGreatDoor
namespace Go.Proofs.YtjmbjgecfpggdaaGreatDoor
open Go.Ab Go.Rx Go.ChangeShapes Go.WideShapes Go.ChangeAt Go.RowKit Go.Lib
set_option maxHeartbeats 20000000
set_option maxRecDepth 100000
abbrev zur : List (String × DataW Unit) := [("unicode/utf8.acceptRanges", Rows.laid_unicode_utf8_acceptRanges), ("unicode/utf8.first", Rows.laid_unicode_utf8_first)]
theorem zti : (Rows.laid_unicode_utf8_acceptRanges : DataW Unit) = acceptData := by kernel_rfl
theorem znm : Rows.laid_unicode_utf8_first = firstData := by kernel_rfl
theorem z6z : U8Extra Tryz.prog z6o := ⟨by kernel_rfl, by kernel_rfl, by kernel_rfl, by kernel_rfl, by kernel_rfl, by kernel_rfl, by kernel_rfl⟩
theorem zm6 {H : Type} {enc : TypeId × Value → H} {P : Program} {w : World} {base : Nat} {sp : Nat → Bool} {held : Bool} {fuel : Nat} {t e : TypeId} {n : Nat} {cs : List Value} {ds : List (DataW H)} {p : List MemPlace} (ht : P.underlying t = some (.array n e))
  (h : DataW.trod enc P w base sp held fuel t cs = some (.agg ds, p)) : cs.length = P.cellsOf t ∨ cs.length = n * P.cellsOf e := by
 cases fuel with
 | zero => simp [DataW.trod] at h
 | succ fuel =>
  simp only [DataW.trod, ht] at h
  split at h
  · rename_i hc
    first
     | exact .inl (by simpa using hc)
     | exact .inr (by simpa using hc)
  · cases h
structure zw4 (W : World) : Prop where
 u : Lib.Utf8Tabs 0 1 W
 sep : ∀ g o v, zjw g → W.cell? ⟨g, o, none⟩ = some v → ∃ z, v = .int .u8 z
 e0 : ∃ o, W.heap[0]? = some o ∧ ∀ x, o ≠ .deferred x
 e1 : ∃ o, W.heap[1]? = some o ∧ ∀ x, o ≠ .deferred x
theorem zi9 {P : Program} {w : World} {n : String} {g : Nat} {cs : Array Value} (hg : P.globalNamed n = some g) (h : w.var? P n = some cs) : ∃ o, w.heap[g]? = some o ∧ ∀ x, o ≠ .deferred x := by
 simp only [World.var?, hg, Option.bind_some] at h
 split at h
 · rename_i a b c hh
   exact ⟨_, hh, fun x e => by cases e⟩
 · cases h
theorem zlb {W : World} (hL : laidMetH Tryz.prog zur W) : zw4 W := by
 rw [MakeChecks.laidMetH_plain _ _ _ (by kernel_rfl)] at hL
 have h4 := Lib.laidMet.reads hL (n := "unicode/utf8.acceptRanges") (.head _)
 have h3 := Lib.laidMet.reads hL (n := "unicode/utf8.first") (.tail _ (.head _))
 rw [zti] at h4
 rw [znm] at h3
 have hu : Lib.Utf8Tabs 0 1 W := utf8Tabs_of_reads (ρ := z6o) zdw z6z h3 h4
 obtain ⟨g, t, cs, fuel, p, hg, hty, hvar, hd⟩ := h3
 obtain ⟨g', t', cs', fuel', p', hg', hty', hvar', hd'⟩ := h4
 obtain rfl := Option.some.inj (z6z.n3.symm.trans hg)
 obtain rfl := Option.some.inj (z6z.y3.symm.trans hty)
 obtain rfl := Option.some.inj (z6z.n4.symm.trans hg')
 obtain rfl := Option.some.inj (z6z.y4.symm.trans hty')
 refine ⟨hu, fun g o v hown hv => ?_, zi9 hg hvar, zi9 hg' hvar'⟩
 rcases hown with rfl | rfl
 · have hcs := cells_of_tab zdw.t119 zdw.t5 z6z.c5 z6z.c119 hd
   have := World.var?_cell hg hvar o
   change W.cell? ⟨0, o, none⟩ = _ at this
   rw [this, ← Array.getElem?_toList, hcs] at hv
   rw [List.getElem?_map] at hv
   cases hz : firstTab[o]? with
   | none => rw [hz] at hv; simp at hv
   | some z => rw [hz] at hv; simp at hv; exact ⟨z, hv.symm⟩
 · have hl := zm6 zdw.t139 hd'
   have := World.var?_cell hg' hvar' o
   change W.cell? ⟨1, o, none⟩ = _ at this
   have hlt : o < cs'.size := by
    rw [this] at hv
    exact (Array.getElem?_eq_some_iff.1 hv).1
   have h32 : cs'.size = 32 := by
    rw [Array.length_toList] at hl
    have c1 : Tryz.prog.cellsOf (z6o.t 139) = 32 := by kernel_rfl
    have c2 := z6z.c138
    rcases hl with hl | hl
    · rw [hl, c1]
    · rw [hl, c2]
   obtain ⟨i, hi⟩ : ∃ i, o = 2 * i ∨ o = 2 * i + 1 := ⟨o / 2, by omega⟩
   have hui := hu.2 i (by omega)
   rcases hi with rfl | rfl
   · rw [hui.1] at hv; exact ⟨_, (Option.some.inj hv).symm⟩
   · rw [hui.2] at hv; exact ⟨_, (Option.some.inj hv).symm⟩
theorem zv3 {w w' : World} (h0 : w'.heap[0]? = w.heap[0]?) (h1 : w'.heap[1]? = w.heap[1]?) (h : Lib.Utf8Tabs 0 1 w) : Lib.Utf8Tabs 0 1 w' := by
 have c0 : ∀ o, w'.cell? ⟨0, o, none⟩ = w.cell? ⟨0, o, none⟩ := fun o => by simp only [World.cell?, h0]
 have c1 : ∀ o, w'.cell? ⟨1, o, none⟩ = w.cell? ⟨1, o, none⟩ := fun o => by simp only [World.cell?, h1]
 refine ⟨fun c hc => ?_, fun i hi => ?_⟩
 · rw [c0]; exact h.1 c hc
 · rw [c1, c1]; exact h.2 i hi
/-- the tables that a memory holds -/
theorem zok {W : World} (h : zw4 W) : ∃ τ : Tab, W.heap[0]? = some τ.o0 ∧ W.heap[1]? = some τ.o1 ∧ (∀ x, τ.o0 ≠ .deferred x) ∧ (∀ x, τ.o1 ≠ .deferred x) := by
 obtain ⟨o0, a0, b0⟩ := h.e0
 obtain ⟨o1, a1, b1⟩ := h.e1
 exact ⟨⟨o0, o1, fun w h0 h1 => zv3 (w := W) (h0.trans a0.symm) (h1.trans a1.symm) h.u⟩, a0, a1, b0, b1⟩
end Go.Proofs.YtjmbjgecfpggdaaGreatDoor
