/- A part of the proof: G35, G36, G37. -/
import Derived.Test.YtjmbjgecfpggdaaGreatDoorRw
import Derived.Test.YtjmbjgecfpggdaaGreatDoorRv
import Derived.Test.YtjmbjgecfpggdaaGreatDoorRc
import Derived.Lib.LaidU8
import Derived.Test.YtjmbjgecfpggdaaGreatDoorRows
import Derived.OpenShut
import Derived.LaidMore
import Derived.ProofKit
set_option linter.all false
set_option linter.unusedVariables false
set_option linter.unusedSimpArgs false
namespace Go.Proofs.YtjmbjgecfpggdaaGreatDoor
open Go.Ab Go.Rx
set_option maxHeartbeats 20000000
set_option maxRecDepth 100000
attribute [local irreducible] Run Ops Op1 z2q Val Tr z1p z2j NF Rel z5b z5c z84
theorem zbv (e : Rx) (hf : fit e) : z1p Tryz.prog 20 [.d (Drx e)] (I .i64 (val e)) := by
 refine z2e fun H => ?_
 have hsh := zrb e hf 1 (by decide) (by decide)
 have hvs := zsa e
 have hss := zm2.1 e 1 (by decide)
 have hpo := zf7 e hf
 obtain ⟨V, hV⟩ : ∃ V, val e = V := ⟨_, rfl⟩
 rw [hV] at hvs ⊢
 have hvn : ¬ (200 < (sh e 1).1 ∨ 40 < (sh e 1).2.1) → (sh e 1).2.2 = true → vns e = true := fun h1 h2 => by
  by_cases hc : (1 : Int) + dp e ≤ 41 ∧ sz e ≤ 200
  · rw [if_pos hc] at hss; rw [hss] at h2; exact h2
  · rw [if_neg hc] at hss; exact absurd hss h1
 generalize sh e 1 = S at *
 obtain ⟨n, c, b⟩ := S
 simp only at hvs hvn
 by_cases h1 : 200 < n ∨ 40 < c
 · rw [if_pos h1] at hvs
   subst hvs
   obtain ⟨op, mn, mx, rs, ks⟩ := e
   rw [z3u] at hsh ⊢
   dsimp only [shv] at hsh
   refine z1c Tryz.func20 (by kernel_rfl) rfl (by simp) ?_
   dsimp only [Tryz.f20]
   repeat' (first | (apply z0e; (first | refine z11 rfl (by decide) ?_ | (apply z0a; (refine z00 (z3r rfl rfl rfl) rfl rfl (by decide) ?_)) | (apply z0o; (refine z2v hsh rfl (by decide) ?_)) | (apply z3b; (refine z0k (z2m rfl rfl (by decide)) ?_)))) | (apply z0b; (first | refine z10 ?_ | apply z0d | refine z2f rfl rfl (by decide) ?_ | refine z16 rfl rfl (fun _ => ?_) (fun _ => ?_))) | (apply z0c; (first | apply z0f | apply z01 | refine z0r rfl ?_ | apply z03 | refine z1i rfl (fun _ => ?_) (fun _ => ?_) | refine z6x rfl (fun _ => ?_) (fun _ => ?_))))
   all_goals try (exfalso; omega)
   all_goals exact z0g Tryz.func20 _ (z0j rfl rfl) ⟨rfl, rfl⟩
 · rw [if_neg h1] at hvs
   cases b with
   | false =>
    rw [if_pos rfl] at hvs
    subst hvs
    obtain ⟨op, mn, mx, rs, ks⟩ := e
    rw [z3u] at hsh ⊢
    dsimp only [shv] at hsh
    refine z1c Tryz.func20 (by kernel_rfl) rfl (by simp) ?_
    dsimp only [Tryz.f20]
    repeat' (first | (apply z0e; (first | refine z11 rfl (by decide) ?_ | (apply z0a; (refine z00 (z3r rfl rfl rfl) rfl rfl (by decide) ?_)) | (apply z0o; (refine z2v hsh rfl (by decide) ?_)) | (apply z3b; (refine z0k (z2m rfl rfl (by decide)) ?_)))) | (apply z0b; (first | refine z10 ?_ | apply z0d | refine z2f rfl rfl (by decide) ?_ | refine z16 rfl rfl (fun _ => ?_) (fun _ => ?_))) | (apply z0c; (first | apply z0f | apply z01 | refine z0r rfl ?_ | apply z03 | refine z1i rfl (fun _ => ?_) (fun _ => ?_))))
    all_goals try (exfalso; omega)
    all_goals exact z0g Tryz.func20 _ (z0j rfl rfl) ⟨rfl, rfl⟩
   | true =>
    rw [if_neg (by decide)] at hvs
    have hpo := hpo (hvn h1 rfl)
    generalize ps 1048576 e = P at *
    obtain ⟨op, mn, mx, rs, ks⟩ := e
    rw [z3u] at hsh hpo ⊢
    dsimp only [shv] at hsh
    subst hvs
    refine z1c Tryz.func20 (by kernel_rfl) rfl (by simp) ?_
    dsimp only [Tryz.f20]
    by_cases hp : 64 < P
    · rw [if_pos hp]
      repeat' (first | (apply z0e; (first | refine z11 rfl (by decide) ?_ | (apply z0a; (refine z00 (z3r rfl rfl rfl) rfl rfl (by decide) ?_)) | (apply z0o; (first | refine z2v hsh rfl (by decide) ?_ | refine z2v hpo rfl (by decide) ?_)) | (apply z3b; (refine z0k (z2m rfl rfl (by decide)) ?_)))) | (apply z0b; (first | refine z10 ?_ | apply z0d | refine z2f rfl rfl (by decide) ?_ | refine z16 rfl rfl (fun _ => ?_) (fun _ => ?_))) | (apply z0c; (first | apply z0f | apply z01 | refine z0r rfl ?_ | refine z0h rfl ?_ | apply z09 | apply z03 | apply z08 | refine z1i rfl (fun _ => ?_) (fun _ => ?_))))
      all_goals try (exfalso; omega)
      all_goals exact z0g Tryz.func20 _ (z0j rfl rfl) ⟨rfl, rfl⟩
    · rw [if_neg hp]
      repeat' (first | (apply z0e; (first | refine z11 rfl (by decide) ?_ | (apply z0a; (refine z00 (z3r rfl rfl rfl) rfl rfl (by decide) ?_)) | (apply z0o; (first | refine z2v hsh rfl (by decide) ?_ | refine z2v hpo rfl (by decide) ?_)) | (apply z3b; (refine z0k (z2m rfl rfl (by decide)) ?_)))) | (apply z0b; (first | refine z10 ?_ | apply z0d | refine z2f rfl rfl (by decide) ?_ | refine z16 rfl rfl (fun _ => ?_) (fun _ => ?_))) | (apply z0c; (first | apply z0f | apply z01 | refine z0r rfl ?_ | refine z0h rfl ?_ | apply z09 | apply z03 | apply z08 | refine z1i rfl (fun _ => ?_) (fun _ => ?_))))
      all_goals try (exfalso; omega)
      all_goals exact z0g Tryz.func20 _ (z0j rfl rfl) ⟨rfl, rfl⟩
end Go.Proofs.YtjmbjgecfpggdaaGreatDoor
namespace Go.Proofs.YtjmbjgecfpggdaaGreatDoor
open Go.Ab Go.Rx Go.ChangeShapes Go.WideShapes Go.ChangeAt Go.RowKit
set_option maxHeartbeats 20000000
set_option maxRecDepth 100000
abbrev zs6 : Nat → Prop := fun g => g = 0 ∨ g = 1
end Go.Proofs.YtjmbjgecfpggdaaGreatDoor
namespace Go.Proofs.YtjmbjgecfpggdaaGreatDoor
open Go.Ab Go.Rx Go.ChangeShapes Go.WideShapes Go.ChangeAt Go.RowKit Go.Lib
set_option maxHeartbeats 20000000
set_option maxRecDepth 100000
abbrev zul : List (String × DataW Unit) := [("unicode/utf8.acceptRanges", Rows.laid_unicode_utf8_acceptRanges), ("unicode/utf8.first", Rows.laid_unicode_utf8_first)]
theorem ztz : (Rows.laid_unicode_utf8_acceptRanges : DataW Unit) = acceptData := by kernel_rfl
theorem zo4 : Rows.laid_unicode_utf8_first = firstData := by kernel_rfl
theorem z7g : U8Extra Tryz.prog z6w := ⟨by kernel_rfl, by kernel_rfl, by kernel_rfl, by kernel_rfl, by kernel_rfl, by kernel_rfl, by kernel_rfl⟩
theorem zl6 {H : Type} {enc : TypeId × Value → H} {P : Program} {w : World} {base : Nat} {sp : Nat → Bool} {held : Bool} {fuel : Nat} {t e : TypeId} {n : Nat} {cs : List Value} {ds : List (DataW H)} {p : List MemPlace} (ht : P.underlying t = some (.array n e))
  (h : DataW.trod enc P w base sp held fuel t cs = some (.agg ds, p)) : cs.length = P.cellsOf t ∨ cs.length = n * P.cellsOf e := by
 cases fuel with
 | zero => simp [DataW.trod] at h
 | succ fuel =>
  simp only [DataW.trod, ht] at h
  split at h
  · rename_i hc
    first
     | exact .inl (by simpa using hc)
     | exact .inr (by simpa using hc)
  · cases h
structure zvz (W : World) : Prop where
 u : Lib.Utf8Tabs 0 1 W
 sep : ∀ g o v, zs6 g → W.cell? ⟨g, o, none⟩ = some v → ∃ z, v = .int .u8 z
 e0 : ∃ o, W.heap[0]? = some o ∧ ∀ x, o ≠ .deferred x
 e1 : ∃ o, W.heap[1]? = some o ∧ ∀ x, o ≠ .deferred x
theorem zib {P : Program} {w : World} {n : String} {g : Nat} {cs : Array Value} (hg : P.globalNamed n = some g) (h : w.var? P n = some cs) : ∃ o, w.heap[g]? = some o ∧ ∀ x, o ≠ .deferred x := by
 simp only [World.var?, hg, Option.bind_some] at h
 split at h
 · rename_i a b c hh
   exact ⟨_, hh, fun x e => by cases e⟩
 · cases h
theorem zq1 {W : World} (hL : laidMetH Tryz.prog zul W) : zvz W := by
 rw [MakeChecks.laidMetH_plain _ _ _ (by kernel_rfl)] at hL
 have h4 := Lib.laidMet.reads hL (n := "unicode/utf8.acceptRanges") (.head _)
 have h3 := Lib.laidMet.reads hL (n := "unicode/utf8.first") (.tail _ (.head _))
 rw [ztz] at h4
 rw [zo4] at h3
 have hu : Lib.Utf8Tabs 0 1 W := utf8Tabs_of_reads (ρ := z6w) ze5 z7g h3 h4
 obtain ⟨g, t, cs, fuel, p, hg, hty, hvar, hd⟩ := h3
 obtain ⟨g', t', cs', fuel', p', hg', hty', hvar', hd'⟩ := h4
 obtain rfl := Option.some.inj (z7g.n3.symm.trans hg)
 obtain rfl := Option.some.inj (z7g.y3.symm.trans hty)
 obtain rfl := Option.some.inj (z7g.n4.symm.trans hg')
 obtain rfl := Option.some.inj (z7g.y4.symm.trans hty')
 refine ⟨hu, fun g o v hown hv => ?_, zib hg hvar, zib hg' hvar'⟩
 rcases hown with rfl | rfl
 · have hcs := cells_of_tab ze5.t119 ze5.t5 z7g.c5 z7g.c119 hd
   have := World.var?_cell hg hvar o
   change W.cell? ⟨0, o, none⟩ = _ at this
   rw [this, ← Array.getElem?_toList, hcs] at hv
   rw [List.getElem?_map] at hv
   cases hz : firstTab[o]? with
   | none => rw [hz] at hv; simp at hv
   | some z => rw [hz] at hv; simp at hv; exact ⟨z, hv.symm⟩
 · have hl := zl6 ze5.t139 hd'
   have := World.var?_cell hg' hvar' o
   change W.cell? ⟨1, o, none⟩ = _ at this
   have hlt : o < cs'.size := by
    rw [this] at hv
    exact (Array.getElem?_eq_some_iff.1 hv).1
   have h32 : cs'.size = 32 := by
    rw [Array.length_toList] at hl
    have c1 : Tryz.prog.cellsOf (z6w.t 139) = 32 := by kernel_rfl
    have c2 := z7g.c138
    rcases hl with hl | hl
    · rw [hl, c1]
    · rw [hl, c2]
   obtain ⟨i, hi⟩ : ∃ i, o = 2 * i ∨ o = 2 * i + 1 := ⟨o / 2, by omega⟩
   have hui := hu.2 i (by omega)
   rcases hi with rfl | rfl
   · rw [hui.1] at hv; exact ⟨_, (Option.some.inj hv).symm⟩
   · rw [hui.2] at hv; exact ⟨_, (Option.some.inj hv).symm⟩
theorem zvk {w w' : World} (h0 : w'.heap[0]? = w.heap[0]?) (h1 : w'.heap[1]? = w.heap[1]?) (h : Lib.Utf8Tabs 0 1 w) : Lib.Utf8Tabs 0 1 w' := by
 have c0 : ∀ o, w'.cell? ⟨0, o, none⟩ = w.cell? ⟨0, o, none⟩ := fun o => by simp only [World.cell?, h0]
 have c1 : ∀ o, w'.cell? ⟨1, o, none⟩ = w.cell? ⟨1, o, none⟩ := fun o => by simp only [World.cell?, h1]
 refine ⟨fun c hc => ?_, fun i hi => ?_⟩
 · rw [c0]; exact h.1 c hc
 · rw [c1, c1]; exact h.2 i hi
/-- the tables that a memory holds -/
theorem zsr {W : World} (h : zvz W) : ∃ τ : Tab, W.heap[0]? = some τ.o0 ∧ W.heap[1]? = some τ.o1 ∧ (∀ x, τ.o0 ≠ .deferred x) ∧ (∀ x, τ.o1 ≠ .deferred x) := by
 obtain ⟨o0, a0, b0⟩ := h.e0
 obtain ⟨o1, a1, b1⟩ := h.e1
 exact ⟨⟨o0, o1, fun w h0 h1 => zvk (w := W) (h0.trans a0.symm) (h1.trans a1.symm) h.u⟩, a0, a1, b0, b1⟩
end Go.Proofs.YtjmbjgecfpggdaaGreatDoor
