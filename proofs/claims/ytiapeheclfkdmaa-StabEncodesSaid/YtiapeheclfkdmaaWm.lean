/- A law holds for every input; no condition. -/
import Derived.Test.YtiapeheclfkdmaaWl
import Derived.Test.YtiapeheclfkdmaaFh
import Derived.ChangeKeysEq
import Derived.Test.YtiapeheclfkdmaaWj
set_option linter.all false
set_option linter.unusedVariables false
set_option linter.unusedSimpArgs false
namespace Go.Proofs.Ytiapeheclfkdmaa
open Go.Ab Go.Stab
set_option maxHeartbeats 20000000
set_option maxRecDepth 100000
set_option linter.unusedVariables false
set_option linter.unusedSimpArgs false
attribute [local irreducible] Run Ops Op1 Does Val Tr PureF Eff1 NF Rel EffV EffM

theorem uvF_isB : ∀ (f : Nat) (x : Int), 0 ≤ x → x < pw f → isB (uvF f x)
  | 0, x, h0, h1 => by
    intro c hc
    simp [uvF] at hc; subst hc
    simp only [pw] at h1; omega
  | f + 1, x, h0, h1 => by
    intro c hc
    rw [uvF] at hc
    split at hc
    · simp at hc; subst hc; omega
    · rw [List.mem_cons] at hc
      rcases hc with rfl | hc
      · omega
      · exact uvF_isB f (x / 128) (by omega) (by rw [pw] at h1; omega) c hc
theorem uv_isB {x : Int} (h0 : 0 ≤ x) (h1 : x < 18446744073709551616) : isB (uv x) := uvF_isB 9 x h0 h1
theorem uv_len (x : Int) : (uv x).length ≤ 10 := uvF_len 9 x
theorem isB_app {a b : List Int} (ha : isB a) (hb : isB b) : isB (a ++ b) := fun c hc => by
  rw [List.mem_append] at hc
  exact hc.elim (ha c) (hb c)
/-- the numbers of spans as bytes -/
def encS (l : List Span) : List Int := l.flatMap fun s => uv s.1 ++ uv (s.2 - s.1 - 1)
def encB (l : List Span) : List Int := uv l.length ++ encS l
theorem encS_len : ∀ l : List Span, (encS l).length ≤ 20 * l.length
  | [] => by simp [encS]
  | s :: l => by
    have := encS_len l
    have h1 := uv_len s.1
    have h2 := uv_len (s.2 - s.1 - 1)
    simp only [encS, List.flatMap_cons, List.length_append, List.length_cons] at *
    omega
def goodS (s : Span) : Prop := 0 ≤ s.1 ∧ s.1 < s.2 ∧ s.2 ≤ 2147483647
theorem encS_isB : ∀ l : List Span, (∀ s ∈ l, goodS s) → isB (encS l)
  | [], _ => fun c hc => by simp [encS] at hc
  | s :: l, h => by
    obtain ⟨h1, h2, h3⟩ := h s (by simp)
    have e : encS (s :: l) = (uv s.1 ++ uv (s.2 - s.1 - 1)) ++ encS l := rfl
    rw [e]
    exact isB_app (isB_app (uv_isB (by omega) (by omega)) (uv_isB (by omega) (by omega))) (encS_isB l fun t ht => h t (by simp [ht]))
theorem encS_snoc (l : List Span) (s : Span) : encS (l ++ [s]) = encS l ++ (uv s.1 ++ uv (s.2 - s.1 - 1)) := by simp [encS]
theorem ruvn_s (v : Int) (h0 : 0 ≤ v) (h1 : v < 18446744073709551616) : ∀ H, Ab.Spec Try.prog 41 [.d (Du64 v)] H (fun r H' => r = .new (brow (uv v)) ∧ H' = H) := by
  intro H
  refine spec_of Try.func41 (by kernel_rfl) rfl (by simp) ?_
  dsimp only [Try.f41]
  repeat' (first | (refine k_op1 ?_; (refine o_sv rfl (by decide) ?_)) | (refine k_ops ?_; (first | refine o_go (by first | exact .inl rfl | exact .inr ⟨_, _, _, rfl, rfl, rfl⟩) ?_ | refine o_nil ?_)) | (refine k_run ?_; (first | refine r_seq ?_ | refine r_region ?_ | refine r_block ?_)))
  all_goals try (exfalso; omega)
  refine r_slot_row 3 1000 5 1 rfl rfl rfl ?_
  refine r_loop ?_
  refine r_less (r_inv (fun q : Nat × List Int × Int => ⟨20, [(0, .d (Du64 q.2.2)), (3, .ref (0, 1000))], [(1000, brow q.2.1)], H⟩) (fun q => q.1 ≤ 9 ∧ 0 ≤ q.2.2 ∧ q.2.2 < pw q.1 ∧ q.2.1 ++ uvF q.1 q.2.2 = uv v ∧ q.2.1.length + q.1 ≤ 9) (fun q => q.1) ?_ (9, [], v) ⟨Nat.le_refl 9, h0, h1, rfl, by simp⟩) rfl rfl
  rintro ⟨f, row, x⟩ ⟨i1, i2, i3, i4, i5⟩ ih
  simp only at i1 i2 i3 i4 i5 ih ⊢
  have hpw := pw_le f i1
  by_cases hx : 128 ≤ x
  · obtain ⟨g, rfl⟩ : ∃ g, f = g + 1 := by
      cases f with
      | zero => simp only [pw] at i3; omega
      | succ g => exact ⟨g, rfl⟩
    rw [pw] at i3 hpw
    rw [uvF, if_neg (by omega)] at i4
    repeat' (first | (refine k_op1 ?_; (first | refine o_sv rfl (by decide) ?_ | (refine k_bin ?_; (first | refine o_val (v_add (wu8 (by omega) (by omega))) rfl rfl (by decide) ?_ | refine o_val (v_quoe (c := x / 128) (by omega) (by omega) (wu64 (by omega) (by omega)) rfl) rfl rfl (by decide) ?_ | refine o_val (v_rem (by omega) (by omega)) rfl rfl (by decide) ?_)) | (refine k_blt ?_; (first | refine o_app1 (g := fun x : Int => [Du8 x]) rfl rfl (x % 128 + 128) rfl rfl rfl rfl rfl rfl rfl (by decide) (by omega) ?_ | refine o_app1 rfl rfl _ rfl rfl rfl rfl rfl rfl rfl (by decide) (by omega) ?_)) | (refine k_lit ?_; (refine o_lit rfl rfl rfl rfl rfl rfl rfl rfl (by decide) ?_)) | (refine k_conv ?_; (refine o_val (v_conv rfl rfl (wu8 (by omega) (by omega))) rfl rfl (by decide) ?_)))) | (refine k_ops ?_; (first | refine o_go (by first | exact .inl rfl | exact .inr ⟨_, _, _, rfl, rfl, rfl⟩) ?_ | refine o_nil ?_)) | (refine k_run ?_; (first | refine r_seq ?_ | refine r_region ?_ | refine r_skip ?_ | refine r_block ?_ | refine r_inBlock ?_ | refine r_if rfl (fun _ => ?_) (fun _ => ?_) | refine r_exit rfl ?_)))
    all_goals try (exfalso; omega)
    refine r_ren 12 1000 rfl rfl ?_
    exact r_less (ih (g, row ++ [x % 128 + 128], x / 128) ⟨by simp only; omega, by simp only; omega, by simp only; omega, by simp only; rw [← i4, List.append_assoc]; rfl, by simp only [List.length_append, List.length_cons, List.length_nil]; omega⟩ (by simp only; omega)) rfl rfl
  · repeat' (first | (refine k_op1 ?_; (first | refine o_sv rfl (by decide) ?_ | (refine k_blt ?_; (refine o_app1 (g := fun x : Int => [Du8 x]) rfl rfl x rfl rfl rfl rfl rfl rfl rfl (by decide) (by omega) ?_)) | (refine k_lit ?_; (refine o_lit rfl rfl rfl rfl rfl rfl rfl rfl (by decide) ?_)) | (refine k_conv ?_; (refine o_val (v_conv rfl rfl (wu8 (by omega) (by omega))) rfl rfl (by decide) ?_)))) | (refine k_ops ?_; (first | refine o_go (by first | exact .inl rfl | exact .inr ⟨_, _, _, rfl, rfl, rfl⟩) ?_ | refine o_nil ?_)) | (refine k_run ?_; (first | refine r_seq ?_ | refine r_region ?_ | refine r_skip ?_ | refine r_block ?_ | refine r_if rfl (fun _ => ?_) (fun _ => ?_) | refine r_exit rfl ?_)))
    all_goals try (exfalso; omega)
    refine r_ret Try.func41 _ (res_row rfl rfl rfl) ⟨?_, rfl⟩
    rw [← i4, uvF_small f (by omega)]
theorem renc_s (l : List Span) (hl : l.length ≤ 4096) (hg : ∀ s ∈ l, goodS s) : PureF Try.prog 23 [.d (spans l)] (.d (bytesL (sealB (encB l)))) := by
  refine pure_of fun H => ?_
  refine spec_of Try.func23 (by kernel_rfl) rfl (by simp) ?_
  dsimp only [Try.f23]
  have c0 := ruvn_s l.length (by omega) (by omega)
  repeat' (first | (refine k_op1 ?_; (first | refine o_sv rfl (by decide) ?_ | (refine k_blt ?_; (refine o_val (v_lenm rfl) rfl rfl (by decide) ?_)) | (refine k_call ?_; ((refine o_calln rfl (c0 _) (by decide) rfl (fun r H' h => ⟨_, h.1, h.2, rfl, rfl, ?_⟩)))) | (refine k_conv ?_; (refine o_val (v_conv rfl rfl (wu64 (by omega) (by omega))) rfl rfl (by decide) ?_)))) | (refine k_ops ?_; (first | refine o_go (by first | exact .inl rfl | exact .inr ⟨_, _, _, rfl, rfl, rfl⟩) ?_ | refine o_nil ?_)) | (refine k_run ?_; (first | refine r_seq ?_ | refine r_region ?_ | refine r_block ?_)))
  all_goals try (exfalso; omega)
  refine r_less (tm' := [(3, .ref (0, 9)), (10, .d (spans l)), (11, I .i64 l.length), (12, I .i64 0)]) (hp' := [(9, brow (uv l.length))]) ?_ rfl rfl
  refine r_ren 9 1000 rfl rfl ?_
  refine r_loop ?_
  refine r_less (r_inv (fun k : Nat => ⟨34, [(3, .ref (0, 1000)), (10, .d (spans l)), (11, I .i64 l.length), (12, I .i64 (k : Nat))], [(1000, brow (uv l.length ++ encS (l.take k)))], H⟩) (fun k => k ≤ l.length) (fun k => l.length - k) ?_ 0 (Nat.zero_le _)) rfl (by rw [List.take_zero, show encS [] = [] from rfl, List.append_nil]; rfl)
  intro k h1 ih
  have hbl : (uv l.length ++ encS (l.take k)).length ≤ 90000 := by
    have a1 := uv_len l.length
    have a2 := encS_len (l.take k)
    rw [List.length_take] at a2
    rw [List.length_append]; omega
  by_cases hlt : k < l.length
  · obtain ⟨s, hs⟩ : ∃ s, l[k]? = some s := ⟨_, List.getElem?_eq_getElem hlt⟩
    obtain ⟨g1, g2, g3⟩ := hg s (List.mem_of_getElem? hs)
    have c1 := ruv_s s.1 (by omega) (by omega)
    have c2 := ruv_s (s.2 - s.1 - 1) (by omega) (by omega)
    have l1 := uv_len s.1
    have l2 := uv_len (s.2 - s.1 - 1)
    repeat' (first | (refine k_op1 ?_; (first | refine o_sv rfl (by decide) ?_ | (refine k_load ?_; (refine o_val (v_loadea rfl rfl) rfl rfl (by decide) ?_)) | (refine k_index ?_; (refine o_val (v_index (ys := l.map spc) rfl (by omega) (idx hs) rfl) rfl rfl (by decide) ?_)) | (refine k_bin ?_; (refine o_val (v_add (wi64 (by omega) (by omega))) rfl rfl (by decide) ?_)) | (refine k_store ?_; (refine o_store0 rfl rfl rfl rfl rfl rfl ?_)) | (refine k_alloc ?_; (refine o_does (d_alloc rfl rfl (by decide)) ?_)))) | (refine k_ops ?_; (first | refine o_go (by first | exact .inl rfl | exact .inr ⟨_, _, _, rfl, rfl, rfl⟩) ?_ | refine o_nil ?_)) | (refine k_run ?_; (first | refine r_seq ?_ | refine r_region ?_ | refine r_skip ?_ | refine r_block ?_ | refine r_tr ?_ | refine r_inBlock ?_ | refine r_if rfl (fun _ => ?_) (fun _ => ?_) | refine r_exit rfl ?_)) | (refine k_tr ?_; (first | (refine kt_end ?_; refine t_end mix (by kernel_rfl) ?_) | refine t_sv rfl (by first | exact rfl | exact ⟨_, rfl, rfl, rfl⟩) (by decide) ?_ | (refine kt_load ?_; (refine t_val (v_load rfl rfl rfl rfl) (by first | exact rfl | exact ⟨_, rfl, rfl, rfl⟩) rfl rfl (by decide) ?_)) | (refine kt_field ?_; (refine t_val (v_field rfl rfl) (by first | exact rfl | exact ⟨_, rfl, rfl, rfl⟩) rfl rfl (by decide) ?_)) | (refine kt_bin ?_; (refine t_val (v_sub (wi64 (by omega) (by omega))) (by first | exact rfl | exact ⟨_, rfl, rfl, rfl⟩) rfl rfl (by decide) ?_)) | (refine kt_blt ?_; (first | refine t_apps (q := uv l.length ++ encS (l.take k)) (r := uv s.1) (g := fun x : Int => [Du8 x]) (by first | exact rfl | exact ⟨_, rfl, rfl, rfl⟩) rfl rfl rfl rfl rfl (fun _ => rfl) rfl rfl (by decide) (by omega) ?_ | refine t_apps (q := uv l.length ++ encS (l.take k) ++ uv s.1) (r := uv (s.2 - s.1 - 1)) (g := fun x : Int => [Du8 x]) (by first | exact rfl | exact ⟨_, rfl, rfl, rfl⟩) rfl rfl rfl rfl rfl (fun _ => rfl) rfl rfl (by decide) (by rw [List.length_append]; omega) ?_)) | (refine kt_call ?_; (first | refine t_fn c1 (by first | exact rfl | exact ⟨_, rfl, rfl, rfl⟩) rfl (by decide) ?_ | refine t_fn c2 (by first | exact rfl | exact ⟨_, rfl, rfl, rfl⟩) rfl (by decide) ?_)) | (refine kt_conv ?_; (refine t_val (v_conv rfl rfl (wu64 (by omega) (by omega))) (by first | exact rfl | exact ⟨_, rfl, rfl, rfl⟩) rfl rfl (by decide) ?_)))))
    all_goals try (exfalso; omega)
    refine r_ren 30 1000 rfl rfl ?_
    refine r_less (ih (k + 1) (by omega) (by omega)) rfl ?_
    rw [take_succ' hs, encS_snoc, ← List.append_assoc, ← List.append_assoc]; rfl
  · obtain rfl : k = l.length := by omega
    rw [List.take_length] at *
    have hB : isB (encB l) := isB_app (uv_isB (by omega) (by omega)) (encS_isB l hg)
    have hs := rseal_s (encB l) (by rw [encB]; omega) hB
    clear ih
    refine r_freeze 1000 rfl ?_
    repeat' (first | (refine k_op1 ?_; (first | refine o_sv rfl (by decide) ?_ | (refine k_call ?_; (refine o_fn hs rfl (by decide) ?_)))) | (refine k_ops ?_; (first | refine o_go (by first | exact .inl rfl | exact .inr ⟨_, _, _, rfl, rfl, rfl⟩) ?_ | refine o_nil ?_)) | (refine k_run ?_; (first | refine r_seq ?_ | refine r_region ?_ | refine r_skip ?_ | refine r_block ?_ | refine r_if rfl (fun _ => ?_) (fun _ => ?_) | refine r_exit rfl ?_)))
    all_goals try (exfalso; omega)
    exact r_ret Try.func23 _ (res_one rfl rfl) ⟨rfl, rfl⟩
end Go.Proofs.Ytiapeheclfkdmaa
namespace Go.Proofs.Ytiapeheclfkdmaa
open Go.Ab Go.Stab
set_option maxHeartbeats 20000000
set_option maxRecDepth 100000
set_option linter.unusedVariables false
set_option linter.unusedSimpArgs false
attribute [local irreducible] Run Ops Op1 Does Val Tr PureF Eff1 NF Rel EffV EffM

theorem bytesOf_s (v : Int) : PureF Try.prog 53 [.d (Du32 v)] (.d (.agg ((sb v).map fun x => Du8 x))) := by
  refine pure_of fun H => ?_
  refine spec_of Try.func53 (by kernel_rfl) rfl (by simp) ?_
  dsimp only [Try.f53]
  repeat' (first | (refine k_op1 ?_; (first | refine o_builda (e := 5) rfl rfl rfl rfl rfl rfl rfl (by decide) ?_ | refine o_sv rfl (by decide) ?_ | (refine k_bin ?_; (refine o_val (v_shr (by omega)) rfl rfl (by decide) ?_)) | (refine k_store ?_; (refine o_store0 rfl rfl rfl rfl rfl rfl ?_)) | (refine k_alloc ?_; (refine o_does (d_alloc rfl rfl (by decide)) ?_)) | (refine k_conv ?_; (refine o_val (v_convW rfl rfl (wu8m _)) rfl rfl (by decide) ?_)))) | (refine k_ops ?_; (first | refine o_go (by first | exact .inl rfl | exact .inr ⟨_, _, _, rfl, rfl, rfl⟩) ?_ | refine o_nil ?_)) | (refine k_run ?_; (first | refine r_seq ?_ | refine r_region ?_)))
  all_goals try (exfalso; omega)
  all_goals try (exfalso; omega)
  refine r_cells 2 rfl (cs' := ((sb v).map fun x => Du8 x).map .d) rfl ?_
  exact r_ret Try.func53 _ (res_cell (ds := (sb v).map fun x => Du8 x) rfl rfl rfl rfl rfl rfl) ⟨rfl, rfl⟩
theorem seal_s (b : List Int) (hb : b.length ≤ 100000) (hc : isB b) : PureF Try.prog 37 [.d (bytesL b)] (.d (bytesL (sealB b))) := by
  refine pure_of fun H => ?_
  refine spec_of Try.func37 (by kernel_rfl) rfl (by simp) ?_
  dsimp only [Try.f37]
  have hs : PureF Try.prog 54 [.d (bytesL b)] (.d (Du32 (crcV b))) := by rw [crcV, ← crc_eq]; exact sum_s b hb hc
  have hby := bytesOf_s (crcV b)
  repeat' (first | (refine k_op1 ?_; (first | refine o_sv rfl (by decide) ?_ | (refine k_call ?_; (first | refine o_fn hs rfl (by decide) ?_ | refine o_fn hby rfl (by decide) ?_)) | (refine k_store ?_; ((refine o_store0 rfl rfl rfl rfl rfl rfl ?_; refine o_cells 3 rfl (cs' := ((sb (crcV b)).map fun x => Du8 x).map .d) rfl ?_; refine o_bfz 3 rfl ?_))) | (refine k_alloc ?_; (refine o_does (d_alloc rfl rfl (by decide)) ?_)))) | (refine k_ops ?_; (first | refine o_go (by first | exact .inl rfl | exact .inr ⟨_, _, _, rfl, rfl, rfl⟩) ?_ | refine o_nil ?_)) | (refine k_run ?_; (first | refine r_seq ?_ | refine r_region ?_ | refine r_tr ?_)) | (refine k_tr ?_; (first | (refine kt_end ?_; refine t_end mix (by kernel_rfl) ?_) | refine t_val (v_aslice (e := 5) rfl rfl rfl) (by first | exact rfl | exact ⟨_, rfl, rfl, rfl⟩) rfl rfl (by decide) ?_ | refine t_sv rfl (by first | exact rfl | exact ⟨_, rfl, rfl, rfl⟩) (by decide) ?_ | (refine kt_slice ?_; (refine t_val (v_slice3m (q := b) rfl) (by first | exact rfl | exact ⟨_, rfl, rfl, rfl⟩) rfl rfl (by decide) ?_)) | (refine kt_blt ?_; (refine t_val (v_lenm rfl) (by first | exact rfl | exact ⟨_, rfl, rfl, rfl⟩) rfl rfl (by decide) ?_)) | refine t_appf (q := b) (r := sb (crcV b)) (g := fun x : Int => [Du8 x]) (by first | exact rfl | exact ⟨_, rfl, rfl, rfl⟩) rfl (by simp [sb]) rfl rfl (fun _ => rfl) rfl rfl (by decide) (by simp [sb]; omega) ?_)))
  all_goals try (exfalso; omega)
  refine r_freeze 14 rfl ?_
  exact r_ret Try.func37 _ (res_one rfl rfl) ⟨rfl, rfl⟩
theorem unseal_bad (b : List Int) (hb : b.length < 4) : PureF Try.prog 38 [.d (bytesL b)] (.tup [.d (.slice []), I .i64 10]) := by
  refine pure_of fun H => ?_
  refine spec_of Try.func38 (by kernel_rfl) rfl (by simp) ?_
  dsimp only [Try.f38]
  repeat' (first | (refine k_op1 ?_; (first | refine o_sv rfl (by decide) ?_ | (refine k_bin ?_; (refine o_val (v_sub (wi64 (by omega) (by omega))) rfl rfl (by decide) ?_)) | (refine k_blt ?_; (refine o_val (v_lenm rfl) rfl rfl (by decide) ?_)))) | (refine k_ops ?_; (first | refine o_go (by first | exact .inl rfl | exact .inr ⟨_, _, _, rfl, rfl, rfl⟩) ?_ | refine o_nil ?_)) | (refine k_run ?_; (first | refine r_seq ?_ | refine r_region ?_ | refine r_skip ?_ | refine r_tr ?_ | refine r_if rfl (fun _ => ?_) (fun _ => ?_))) | (refine k_tr ?_; (refine t_sv rfl (by first | exact rfl | exact ⟨_, rfl, rfl, rfl⟩) (by decide) ?_)))
  all_goals try (exfalso; omega)
  refine r_nil 2 rfl ?_
  exact r_ret Try.func38 _ (res_two rfl rfl rfl) ⟨rfl, rfl⟩
def unsR (b : List Int) : PV := if okSeal b = true then .tup [.d (bytesL (cut4 b)), I .i64 0] else .tup [.d (.slice []), I .i64 9]
theorem arrEq {x y : Operand} (v b0 b1 b2 b3 : Int) (w : World) (own : Nat → Prop) (us vs : List Value) (hu : DR w own (.agg ((sb v).map fun x => Du8 x)) (.agg us.toArray)) (hv : DR w own (.agg ([b0, b1, b2, b3].map fun x => Du8 x)) (.agg vs.toArray)) :
    (do eqGuard .neq 79 x y (.agg us.toArray) (.agg vs.toArray); binOp .neq 79 (.agg us.toArray) (.agg vs.toArray) : Sem Value).run Try.prog w = .ok (.bool (!decide (sb v = [b0, b1, b2, b3]))) w := by
  rw [sb] at *
  generalize v % 256 = a0 at *
  generalize shrV .u32 v 8 % 256 = a1 at *
  generalize shrV .u32 v 16 % 256 = a2 at *
  generalize shrV .u32 v 24 % 256 = a3 at *
  have e1 := DR.lits (xs := [.int .u8 a0, .int .u8 a1, .int .u8 a2, .int .u8 a3]) hu
  have e2 := DR.lits (xs := [.int .u8 b0, .int .u8 b1, .int .u8 b2, .int .u8 b3]) hv
  subst e1 e2
  have hu : Try.prog.underlying 79 = some (.array 4 5) := T79.array rfl
  have hg : Try.prog.eqGuardType Try.prog.depth 79 = false := by kernel_rfl
  have hint : Try.prog.underlying 5 = some (.int .u8) := T5.int rfl
  have ha5 : ∀ w, (isAgg 5).run Try.prog w = .ok false w := fun w => T5.isAgg w
  have hc : Try.prog.cellsOf 5 = 1 := by kernel_rfl
  obtain ⟨i, _, _, hi, _⟩ := T5.get
  rw [Sem.run_bind, run_eqGuard_agg _ _ _ _ _ _ _ hg, Result.andThen_ok, run_neq_struct, run_equalIn_array w 9999 _ _ hu hi, hc, show List.range 4 = [0, 1, 2, 3] from rfl]
  by_cases h0 : a0 = b0 <;> by_cases h1 : a1 = b1 <;> by_cases h2 : a2 = b2 <;> by_cases h3 : a3 = b3 <;>
    simp [Op.eqItems, part, ha5, run_equalIn_int _ _ _ _ _ _ _ hint, h0, h1, h2, h3]
theorem v_cut {t e : TypeId} {ti te : TI} {ty : TypeId} {x y : Operand} {kk : IntKind} {a : Int} {α : Type} {q r : List α} {g : α → List D} [ht : HasT Try.prog t ti] [he : HasT Try.prog e te] (hr : q.drop a.toNat = r) (hk : ti.kind = .slice e) (h0 : 0 ≤ a) (h1 : a ≤ q.length) (hs : ∀ v, (g v).length = te.size) :
    Val Try.prog (.slice t x (some y) none none) ty [(x, .d (.slice (q.map g))), (y, I kk a)] [] (.d (.slice (r.map g))) := by subst hr; exact v_slicefm hk h0 h1 hs
theorem unseal_s (b : List Int) (hb : b.length ≤ 100000) (hc : isB b) (h4 : 4 ≤ b.length) : PureF Try.prog 38 [.d (bytesL b)] (unsR b) := by
  refine pure_of fun H => ?_
  refine spec_of Try.func38 (by kernel_rfl) rfl (by simp) ?_
  dsimp only [Try.f38]
  have hcl : (cut4 b).length ≤ b.length := by simp [cut4]
  have hcut : (b.take ((b.length : Int) - 4).toNat) = cut4 b := by rw [cut4]; congr 1; omega
  have hs : PureF Try.prog 54 [.d (bytesL (cut4 b))] (.d (Du32 (crcV (cut4 b)))) := by rw [crcV, ← crc_eq]; exact sum_s (cut4 b) (by omega) (cut4_isB hc)
  have hby := bytesOf_s (crcV (cut4 b))
  rw [← hcut] at hs hby
  have hdl : (b.drop ((b.length : Int) - 4).toNat).length = 4 := by rw [List.length_drop]; omega
  have hbs : b = cut4 b ++ b.drop ((b.length : Int) - 4).toNat := by rw [← hcut, List.take_append_drop]
  have hok : okSeal b = decide (sb (crcV (cut4 b)) = b.drop ((b.length : Int) - 4).toNat) := by
    rw [okSeal, decide_eq_true h4, Bool.true_and, sealB]
    generalize b.drop ((b.length : Int) - 4).toNat = dd at *
    by_cases h : sb (crcV (cut4 b)) = dd
    · rw [decide_eq_true h, decide_eq_true (by rw [h]; exact hbs.symm)]
    · rw [decide_eq_false h, decide_eq_false (fun h2 => h (List.append_cancel_left (h2.trans hbs)))]
  rw [unsR, hok]
  rw [← hcut] at *
  obtain ⟨b0, b1, b2, b3, hcs⟩ : ∃ b0 b1 b2 b3, b.drop ((b.length : Int) - 4).toNat = [b0, b1, b2, b3] := by
    match b.drop ((b.length : Int) - 4).toNat, hdl with
    | [b0, b1, b2, b3], _ => exact ⟨b0, b1, b2, b3, rfl⟩
  rw [hcs]
  repeat' (first | (refine k_op1 ?_; (first | refine o_sv rfl (by decide) ?_ | (refine k_bin ?_; (refine o_val (v_sub (wi64 (by omega) (by omega))) rfl rfl (by decide) ?_)) | (refine k_slice ?_; (refine o_val (v_slicetm (q := b) (g := fun x : Int => [Du8 x]) rfl (by omega) (by omega) (fun _ => rfl)) rfl rfl (by decide) ?_)) | (refine k_blt ?_; (first | refine o_apps (q := []) (r := b.take ((b.length : Int) - 4).toNat) (g := fun x : Int => [Du8 x]) rfl rfl rfl rfl rfl (fun _ => rfl) rfl rfl (by decide) (by simp; omega) ?_ | refine o_val (v_lenm rfl) rfl rfl (by decide) ?_)) | (refine k_lit ?_; (refine o_lito rfl rfl rfl rfl rfl rfl rfl rfl rfl (by decide) ?_)))) | (refine k_ops ?_; (first | refine o_go (by first | exact .inl rfl | exact .inr ⟨_, _, _, rfl, rfl, rfl⟩) ?_ | refine o_nil ?_)) | (refine k_run ?_; (first | refine r_seq ?_ | refine r_region ?_ | refine r_skip ?_ | refine r_tr ?_ | refine r_if rfl (fun _ => ?_) (fun _ => ?_) | refine r_ifn rfl (fun _ => ?_) (fun _ => ?_))) | (refine k_tr ?_; (first | (refine kt_end ?_; refine t_end mix (by kernel_rfl) ?_) | refine t_val (v_cut (q := b) (g := fun x : Int => [Du8 x]) hcs rfl (by omega) (by omega) (fun _ => rfl)) (by first | exact rfl | exact ⟨_, rfl, rfl, rfl⟩) rfl rfl (by decide) ?_ | refine t_sv rfl (by first | exact rfl | exact ⟨_, rfl, rfl, rfl⟩) (by decide) ?_ | (refine kt_load ?_; (refine t_val (v_loadea rfl rfl) (by first | exact rfl | exact ⟨_, rfl, rfl, rfl⟩) rfl rfl (by decide) ?_)) | (refine kt_bin ?_; (refine t_val (v_agg (op := .neq) (tx := 79) (arrEq (crcV (b.take ((b.length : Int) - 4).toNat)) b0 b1 b2 b3)) (by first | exact rfl | exact ⟨_, rfl, rfl, rfl⟩) rfl rfl (by decide) ?_)) | (refine kt_slice ?_; (refine t_val (v_slicetm (q := b) (g := fun x : Int => [Du8 x]) rfl (by omega) (by omega) (fun _ => rfl)) (by first | exact rfl | exact ⟨_, rfl, rfl, rfl⟩) rfl rfl (by decide) ?_)) | (refine kt_call ?_; (first | refine t_fn hs (by first | exact rfl | exact ⟨_, rfl, rfl, rfl⟩) rfl (by decide) ?_ | refine t_fn hby (by first | exact rfl | exact ⟨_, rfl, rfl, rfl⟩) rfl (by decide) ?_)) | refine t_val (v_toarr (q := [b0, b1, b2, b3]) (g := fun x : Int => Du8 x) rfl (by decide) (by simp)) (by first | exact rfl | exact ⟨_, rfl, rfl, rfl⟩) rfl rfl (by decide) ?_)))
  all_goals try (exfalso; omega)
  · rename_i hne
    refine r_nil 2 rfl ?_
    refine r_ret Try.func38 _ (res_two rfl rfl rfl) ⟨?_, rfl⟩
    rw [decide_eq_false hne]; rfl
  · rename_i hne
    refine r_freeze 26 rfl ?_
    refine r_ret Try.func38 _ (res_two rfl rfl rfl) ⟨?_, rfl⟩
    rw [decide_eq_true hne]; rfl
end Go.Proofs.Ytiapeheclfkdmaa
namespace Go.Proofs.Ytiapeheclfkdmaa
open Go.Ab Go.Stab
set_option maxHeartbeats 20000000
set_option maxRecDepth 100000
set_option linter.unusedVariables false
set_option linter.unusedSimpArgs false
attribute [local irreducible] Run Ops Op1 Does Val Tr PureF Eff1 NF Rel EffV EffM
variable {X : Nat} [hX : XOk X]
theorem encode_s (e : Nat) (l : List Span) (hlen : l.length ≤ 4096) (hg : ∀ s ∈ l, goodS s) : Eff1 Try.prog 21 [.ptr (e, X) 0] (Xb X e l) [] (.d (bytesL (sealB (encB l)))) := by
  refine eff_of fun H hH => ?_
  have hH0 := hH ((e, X), xbox l) (by simp)
  refine spec_of Try.func21 (by kernel_rfl) rfl (by simp) ?_
  dsimp only [Try.f21]
  have c0 := putuv_s [] l.length (by omega) (by omega) (by simp)
  repeat' (first | (refine k_op1 ?_; (first | refine o_sv rfl (by decide) ?_ | (refine k_load ?_; (refine o_val (v_load (b := xbox l) rfl rfl rfl rfl) rfl (bkN hH0) (by decide) ?_)) | (refine k_field ?_; (refine o_val (v_field rfl rfl) rfl rfl (by decide) ?_)) | (refine k_blt ?_; (refine o_val (v_lenm rfl) rfl rfl (by decide) ?_)) | (refine k_call ?_; (refine o_fn c0 rfl (by decide) ?_)) | (refine k_conv ?_; (refine o_val (v_conv rfl rfl (wu64 (by omega) (by omega))) rfl rfl (by decide) ?_)))) | (refine k_ops ?_; (first | refine o_go (by first | exact .inl rfl | exact .inr ⟨_, _, _, rfl, rfl, rfl⟩) ?_ | refine o_nil ?_)) | (refine k_run ?_; (first | refine r_seq ?_ | refine r_region ?_ | refine r_block ?_)))
  all_goals try (exfalso; omega)
  refine r_loop ?_
  refine r_less (r_inv (fun k : Nat => ⟨39, [(3, .d (bytesL (uv l.length ++ encS (l.take k)))), (16, .d (spans l)), (17, I .i64 l.length), (18, I .i64 (k : Nat))], [], H⟩) (fun k => k ≤ l.length) (fun k => l.length - k) ?_ 0 (Nat.zero_le _)) (by rw [List.take_zero, show encS [] = [] from rfl, List.append_nil]; rfl) rfl
  intro k h1 ih
  have hbl : (uv l.length ++ encS (l.take k)).length ≤ 90000 := by
    have a1 := uv_len l.length
    have a2 := encS_len (l.take k)
    rw [List.length_take] at a2
    rw [List.length_append]; omega
  by_cases hlt : k < l.length
  · obtain ⟨s, hs⟩ : ∃ s, l[k]? = some s := ⟨_, List.getElem?_eq_getElem hlt⟩
    obtain ⟨g1, g2, g3⟩ := hg s (List.mem_of_getElem? hs)
    have l1 := uv_len s.1
    have c1 := putuv_s (uv l.length ++ encS (l.take k)) s.1 (by omega) (by omega) (by omega)
    have c2 := putuv_s (uv l.length ++ encS (l.take k) ++ uv s.1) (s.2 - s.1 - 1) (by omega) (by omega) (by rw [List.length_append]; omega)
    repeat' (first | (refine k_op1 ?_; (first | refine o_sv rfl (by decide) ?_ | (refine k_load ?_; (first | refine o_val (v_load rfl rfl rfl rfl) rfl rfl (by decide) ?_ | refine o_val (v_loadea rfl rfl) rfl rfl (by decide) ?_)) | (refine k_field ?_; (refine o_val (v_field rfl rfl) rfl rfl (by decide) ?_)) | (refine k_index ?_; (refine o_val (v_index (ys := l.map spc) rfl (by omega) (idx hs) rfl) rfl rfl (by decide) ?_)) | (refine k_bin ?_; (first | refine o_val (v_add (wi64 (by omega) (by omega))) rfl rfl (by decide) ?_ | refine o_val (v_sub (wi64 (by omega) (by omega))) rfl rfl (by decide) ?_)) | (refine k_call ?_; (first | refine o_fn c1 rfl (by decide) ?_ | refine o_fn c2 rfl (by decide) ?_)) | (refine k_store ?_; (refine o_store0 rfl rfl rfl rfl rfl rfl ?_)) | (refine k_alloc ?_; (refine o_does (d_alloc rfl rfl (by decide)) ?_)) | (refine k_conv ?_; (refine o_val (v_conv rfl rfl (wu64 (by omega) (by omega))) rfl rfl (by decide) ?_)))) | (refine k_ops ?_; (first | refine o_go (by first | exact .inl rfl | exact .inr ⟨_, _, _, rfl, rfl, rfl⟩) ?_ | refine o_nil ?_)) | (refine k_run ?_; (first | refine r_seq ?_ | refine r_region ?_ | refine r_skip ?_ | refine r_block ?_ | refine r_inBlock ?_ | refine r_if rfl (fun _ => ?_) (fun _ => ?_) | refine r_exit rfl ?_)))
    all_goals try (exfalso; omega)
    refine r_less (ih (k + 1) (by omega) (by omega)) ?_ rfl
    rw [take_succ' hs, encS_snoc, ← List.append_assoc, ← List.append_assoc]; rfl
  · obtain rfl : k = l.length := by omega
    rw [List.take_length] at *
    have hB : isB (encB l) := isB_app (uv_isB (by omega) (by omega)) (encS_isB l hg)
    have hs := seal_s (encB l) (by rw [encB]; omega) hB
    clear ih
    repeat' (first | (refine k_op1 ?_; (first | refine o_sv rfl (by decide) ?_ | (refine k_call ?_; (refine o_fn hs rfl (by decide) ?_)))) | (refine k_ops ?_; (first | refine o_go (by first | exact .inl rfl | exact .inr ⟨_, _, _, rfl, rfl, rfl⟩) ?_ | refine o_nil ?_)) | (refine k_run ?_; (first | refine r_seq ?_ | refine r_region ?_ | refine r_skip ?_ | refine r_block ?_ | refine r_if rfl (fun _ => ?_) (fun _ => ?_) | refine r_exit rfl ?_)))
    all_goals try (exfalso; omega)
    exact r_ret Try.func21 _ (res_one rfl rfl) ⟨rfl, rfl⟩
end Go.Proofs.Ytiapeheclfkdmaa
