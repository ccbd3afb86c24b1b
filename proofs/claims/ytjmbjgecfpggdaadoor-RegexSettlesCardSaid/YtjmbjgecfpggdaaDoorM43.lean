/- A part of the proof: G43. -/
import Derived.Test.YtjmbjgecfpggdaaDoorRu
import Derived.Test.YtjmbjgecfpggdaaDoorMhj
import Derived.Test.YtjmbjgecfpggdaaDoorMX23
import Derived.Test.YtjmbjgecfpggdaaDoorRc
set_option linter.all false
set_option linter.unusedVariables false
set_option linter.unusedSimpArgs false
namespace Go.Proofs.YtjmbjgecfpggdaaDoor
open Go.Ab Go.Rx
set_option maxHeartbeats 20000000
set_option maxRecDepth 100000
set_option linter.unusedVariables false
set_option linter.unusedSimpArgs false
set_option linter.unusedSectionVars false
attribute [local irreducible] Run Ops Op1 Does Val Tr PureF Eff1 NF Rel EffV EffM EffN
theorem quoted_s {sp : List Int} (hsp : Sp sp) (c : Int) (h0 : 0 ≤ c) (h1 : c ≤ 1114111) : PureF Tryd.prog 58 [I .i32 c, S (spB sp)] (S (txE (quo sp c))) := by
  refine pure_of fun H => ?_
  have hcr := containsRune_s hsp c (by omega) h1
  have hen := (txE_size [c]).2
  refine spec_of Tryd.func58 (by kernel_rfl) rfl (by simp) ?_
  dsimp only [Tryd.f58]
  rw [quo]
  cases hc : sp.contains c with
  | true =>
    rw [hc] at hcr
    rw [if_pos rfl, show txE [92, c] = (⟨#[92]⟩ : ByteArray) ++ Utf8.encode c by rw [← txE_one]; exact txE_app [92] [c]]
    rw [txE_one] at hen
    have h92 : (⟨#[92]⟩ : ByteArray).size = 1 := rfl
    have hl1 : [c].length = 1 := rfl
    repeat' (first | (refine k_op1 ?_; (first | refine o_sv rfl (by decide) ?_ | (refine k_call ?_; (refine o_fn hcr rfl (by decide) ?_)) | (refine k_conv ?_; (refine o_val (v_strune rfl rfl) rfl rfl (by decide) ?_)) | refine o_val (v_sadd (by omega)) rfl rfl (by decide) ?_)) | (refine k_ops ?_; (first | refine o_go (by first | exact .inl rfl | exact .inr ⟨_, _, _, rfl, rfl, rfl⟩) ?_ | refine o_nil ?_)) | (refine k_run ?_; (first | refine r_seq ?_ | refine r_region ?_ | refine r_true rfl ?_)))
    all_goals try (exfalso; omega)
    all_goals exact r_ret Tryd.func58 _ (res_one rfl rfl) ⟨rfl, rfl⟩
  | false =>
    rw [hc] at hcr
    rw [if_neg (by decide), txE_one]
    repeat' (first | (refine k_op1 ?_; (first | refine o_sv rfl (by decide) ?_ | (refine k_call ?_; (refine o_fn hcr rfl (by decide) ?_)) | (refine k_conv ?_; (refine o_val (v_strune rfl rfl) rfl rfl (by decide) ?_)))) | (refine k_ops ?_; (first | refine o_go (by first | exact .inl rfl | exact .inr ⟨_, _, _, rfl, rfl, rfl⟩) ?_ | refine o_nil ?_)) | (refine k_run ?_; (first | refine r_seq ?_ | refine r_region ?_ | refine r_false rfl ?_ | refine r_skip ?_)))
    all_goals try (exfalso; omega)
    all_goals exact r_ret Tryd.func58 _ (res_one rfl rfl) ⟨rfl, rfl⟩
theorem trim_c (s p : ByteArray) : PureF Tryd.prog 63 [S s, S p] (S ⟨(Lib.trimPrefix s.data.toList p.data.toList).toArray⟩) := by
  refine pure_calls ⟨_, Tryd.func63, by kernel_rfl, by kernel_rfl⟩ fun β own w vals hA => ?_
  obtain ⟨hl, ha⟩ := hA
  obtain ⟨v, u, rfl⟩ : ∃ v u, vals = [v, u] := by
    match vals, hl with
    | [v, u], _ => exact ⟨v, u, rfl⟩
  have hv := PR.lit (ha 0 _ v rfl rfl)
  have hu := PR.lit (ha 1 _ u rfl rfl)
  subst hv hu
  exact ⟨_, strings_TrimPrefix s p w, fun w' own' => PR.S _⟩
def jnB (L : List ByteArray) (sep : ByteArray) : ByteArray := ⟨(Lib.join (L.map (·.data.toList)) sep.data.toList).toArray⟩
theorem join_c (L : List ByteArray) (sep : ByteArray) (hN : L.length ≤ 140737488355328) (hlen : (jnB L sep).size ≤ 140737488355328) : PureF Tryd.prog 51 [.d (.slice (L.map fun s => [.lit (.string s)])), S sep] (S (jnB L sep)) := by
  have := eff_calls (P := Tryd.prog) (g := 51) (ps := [.d (.slice (L.map fun s => [.lit (.string s)])), S sep]) (p := S (jnB L sep)) (bs := []) ⟨_, Tryd.func51, by kernel_rfl, by kernel_rfl⟩ fun H hH β own w vals hHR hA => by
    obtain ⟨hl, ha⟩ := hA
    obtain ⟨v, u, rfl⟩ : ∃ v u, vals = [v, u] := by
      match vals, hl with
      | [v, u], _ => exact ⟨v, u, rfl⟩
    have hv := strs_of (ha 0 _ v rfl rfl)
    have hu := PR.lit (ha 1 _ u rfl rfl)
    subst hu
    rcases hv with ⟨rfl, a, cap, rfl⟩ | ⟨g, o, cap, rfl, h1, h2, h3⟩
    · exact ⟨_, (strings_Join_none a cap sep w).mono fun e w' ⟨he, hw⟩ => ⟨he, hw ▸ RowKit.Below.refl _ _⟩, fun w' own' => PR.S _⟩
    · exact ⟨_, strings_Join g o cap L sep w h3 h2 hN h1 (by
        have : (jnB L sep).size = (Lib.join (L.map (·.data.toList)) sep.data.toList).length := by rw [jnB]; simp [ByteArray.size]
        rw [← this]; exact hlen), fun w' own' => PR.S _⟩
  unfold PureF
  intro H
  unfold Eff1 at this
  exact this H (by simp)
theorem digits_p (n : Int) (h0 : 0 ≤ n) (h1 : n ≤ 16) : (⟨(Lib.trimPrefix (runesBytes [48 + n / 10, 48 + n % 10]).data.toList (⟨#[48]⟩ : ByteArray).data.toList).toArray⟩ : ByteArray) = txE (dgs n) := by
  have : ∀ k : Fin 17, (⟨(Lib.trimPrefix (runesBytes [48 + (k.val : Int) / 10, 48 + (k.val : Int) % 10]).data.toList (⟨#[48]⟩ : ByteArray).data.toList).toArray⟩ : ByteArray) = txE (dgs (k.val : Int)) := by decide +kernel
  have := this ⟨n.toNat, by omega⟩
  rwa [show ((⟨n.toNat, by omega⟩ : Fin 17).val : Int) = n by simp; omega] at this
theorem digits_s (n : Int) (h0 : 0 ≤ n) (h1 : n ≤ 16) : PureF Tryd.prog 62 [I .i64 n] (S (txE (dgs n))) := by
  refine pure_of fun H => ?_
  have ht := trim_c (runesBytes [48 + n / 10, 48 + n % 10]) ⟨#[48]⟩
  rw [digits_p n h0 h1] at ht
  refine spec_of Tryd.func62 (by kernel_rfl) rfl (by simp) ?_
  dsimp only [Tryd.f62]
  have hw1 : IntKind.i32.wrap (48 + n / 10) = 48 + n / 10 := by simp [IntKind.wrap, IntKind.bits, IntKind.signed]; omega
  have hw2 : IntKind.i32.wrap (48 + n % 10) = 48 + n % 10 := by simp [IntKind.wrap, IntKind.bits, IntKind.signed]; omega
  repeat' (first | (refine k_op1 ?_; (first | refine o_sv rfl (by decide) ?_ | (refine k_bin ?_; (first | refine o_val (v_quo (by omega) (by omega) (wi64 (by omega) (by omega))) rfl rfl (by decide) ?_ | refine o_val (v_rem (by omega) (by omega)) rfl rfl (by decide) ?_ | refine o_val (v_add (wi64 (by omega) (by omega))) rfl rfl (by decide) ?_)) | (refine k_call ?_; (refine o_fn ht rfl (by decide) ?_)) | (refine k_lit ?_; (refine o_lit rfl rfl rfl rfl rfl rfl rfl rfl (by decide) ?_)) | (refine k_conv ?_; (first | refine o_val (v_conv rfl rfl hw2) rfl rfl (by decide) ?_ | refine o_val (v_conv rfl rfl hw1) rfl rfl (by decide) ?_)) | refine o_val (v_runes (l := [48 + n / 10, 48 + n % 10]) rfl rfl rfl) rfl rfl (by decide) ?_)) | (refine k_ops ?_; (first | refine o_go (by first | exact .inl rfl | exact .inr ⟨_, _, _, rfl, rfl, rfl⟩) ?_ | refine o_nil ?_)) | (refine k_run ?_; (first | refine r_seq ?_ | refine r_region ?_)))
  all_goals try (exfalso; omega)
  all_goals exact r_ret Tryd.func62 _ (res_one rfl rfl) ⟨rfl, rfl⟩
theorem lit_dg (n : Int) : (txE (dgs n)).size ≤ 8 := by
  have h1 := (txE_size (dgs n)).2
  have h2 := dgs_le n
  omega
theorem tcount_s (lo hi : Int) (h0 : 0 ≤ lo) (h1 : lo ≤ 16) (h2 : hi = -1 ∨ lo ≤ hi ∧ hi ≤ 16) : PureF Tryd.prog 52 [I .i64 lo, I .i64 hi] (S (txE (fcnt lo hi))) := by
  refine pure_of fun H => ?_
  have hd1 := digits_s lo h0 h1
  have l1 := lit_dg lo
  have l2 := lit_dg hi
  have z1 : (⟨#[123]⟩ : ByteArray).size = 1 := rfl
  have z2 : (⟨#[44, 125]⟩ : ByteArray).size = 2 := rfl
  have z3 : (⟨#[125]⟩ : ByteArray).size = 1 := rfl
  have z4 : (⟨#[44]⟩ : ByteArray).size = 1 := rfl
  have sa : ∀ a b : ByteArray, (a ++ b).size = a.size + b.size := fun a b => by simp
  refine spec_of Tryd.func52 (by kernel_rfl) rfl (by simp) ?_
  dsimp only [Tryd.f52]
  unfold fcnt
  by_cases c1 : lo = 0 ∧ hi = -1
  · obtain ⟨rfl, rfl⟩ := c1
    rw [if_pos ⟨rfl, rfl⟩]
    repeat' (first | (refine k_op1 ?_; (refine o_sv rfl (by decide) ?_)) | (refine k_ops ?_; (first | refine o_go (by first | exact .inl rfl | exact .inr ⟨_, _, _, rfl, rfl, rfl⟩) ?_ | refine o_nil ?_)) | (refine k_run ?_; (first | refine r_seq ?_ | refine r_region ?_ | refine r_true rfl ?_ | refine r_block ?_)))
    all_goals try (exfalso; omega)
    all_goals exact r_ret Tryd.func52 _ (res_one rfl rfl) ⟨rfl, rfl⟩
  rw [if_neg c1]
  by_cases c2 : lo = 1 ∧ hi = -1
  · obtain ⟨rfl, rfl⟩ := c2
    rw [if_pos ⟨rfl, rfl⟩]
    repeat' (first | (refine k_op1 ?_; (refine o_sv rfl (by decide) ?_)) | (refine k_ops ?_; (first | refine o_go (by first | exact .inl rfl | exact .inr ⟨_, _, _, rfl, rfl, rfl⟩) ?_ | refine o_nil ?_ | refine o_no rfl rfl (by decide) ?_)) | (refine k_run ?_; (first | refine r_seq ?_ | refine r_region ?_ | refine r_true rfl ?_ | refine r_false rfl ?_ | refine r_block ?_)))
    all_goals try (exfalso; omega)
    all_goals exact r_ret Tryd.func52 _ (res_one rfl rfl) ⟨rfl, rfl⟩
  rw [if_neg c2]
  by_cases c3 : lo = 0 ∧ hi = 1
  · obtain ⟨rfl, rfl⟩ := c3
    rw [if_pos ⟨rfl, rfl⟩]
    repeat' (first | (refine k_op1 ?_; (refine o_sv rfl (by decide) ?_)) | (refine k_ops ?_; (first | refine o_go (by first | exact .inl rfl | exact .inr ⟨_, _, _, rfl, rfl, rfl⟩) ?_ | refine o_nil ?_ | refine o_no rfl rfl (by decide) ?_)) | (refine k_run ?_; (first | refine r_seq ?_ | refine r_region ?_ | refine r_true rfl ?_ | refine r_false rfl ?_ | refine r_block ?_)))
    all_goals try (exfalso; omega)
    all_goals exact r_ret Tryd.func52 _ (res_one rfl rfl) ⟨rfl, rfl⟩
  rw [if_neg c3]
  by_cases c4 : hi = -1
  · subst c4
    rw [if_pos rfl, show txE ([123] ++ dgs lo ++ [44, 125]) = ((⟨#[123]⟩ : ByteArray) ++ txE (dgs lo)) ++ ⟨#[44, 125]⟩ by rw [txE_app, txE_app]; rfl]
    repeat' (first | (refine k_op1 ?_; (first | refine o_sv rfl (by decide) ?_ | (refine k_call ?_; (refine o_pure (first := []) (cap := []) (ps := [I .i64 lo]) hd1 rfl rfl (by decide) ?_)) | refine o_val (v_sadd (by (try simp only [sa]); omega)) rfl rfl (by decide) ?_)) | (refine k_ops ?_; (first | refine o_go (by first | exact .inl rfl | exact .inr ⟨_, _, _, rfl, rfl, rfl⟩) ?_ | refine o_nil ?_ | refine o_no rfl rfl (by decide) ?_ | refine o_casep rfl rfl (fun _ => ?_) (fun _ => ?_))) | (refine k_run ?_; (first | refine r_seq ?_ | refine r_region ?_ | refine r_true rfl ?_ | refine r_false rfl ?_ | refine r_block ?_)))
    all_goals try (exfalso; omega)
    all_goals exact r_ret Tryd.func52 _ (res_one rfl rfl) ⟨rfl, rfl⟩
  rw [if_neg c4]
  by_cases c5 : lo = hi
  · rw [if_pos c5, show txE ([123] ++ dgs lo ++ [125]) = ((⟨#[123]⟩ : ByteArray) ++ txE (dgs lo)) ++ ⟨#[125]⟩ by rw [txE_app, txE_app]; rfl]
    repeat' (first | (refine k_op1 ?_; (first | refine o_sv rfl (by decide) ?_ | (refine k_call ?_; (refine o_pure (first := []) (cap := []) (ps := [I .i64 lo]) hd1 rfl rfl (by decide) ?_)) | refine o_val (v_sadd (by (try simp only [sa]); omega)) rfl rfl (by decide) ?_)) | (refine k_ops ?_; (first | refine o_go (by first | exact .inl rfl | exact .inr ⟨_, _, _, rfl, rfl, rfl⟩) ?_ | refine o_nil ?_ | refine o_no rfl rfl (by decide) ?_ | refine o_casep rfl rfl (fun _ => ?_) (fun _ => ?_))) | (refine k_run ?_; (first | refine r_seq ?_ | refine r_region ?_ | refine r_false rfl ?_ | refine r_skip ?_ | refine r_block ?_ | refine r_inBlock ?_ | refine r_if rfl (fun _ => ?_) (fun _ => ?_))))
    all_goals try (exfalso; omega)
    all_goals exact r_ret Tryd.func52 _ (res_one rfl rfl) ⟨rfl, rfl⟩
  · have hd2 := digits_s hi (by omega) (by omega)
    rw [if_neg c5, show txE ([123] ++ dgs lo ++ [44] ++ dgs hi ++ [125]) = ((((⟨#[123]⟩ : ByteArray) ++ txE (dgs lo)) ++ ⟨#[44]⟩) ++ txE (dgs hi)) ++ ⟨#[125]⟩ by rw [txE_app, txE_app, txE_app, txE_app]; rfl]
    repeat' (first | (refine k_op1 ?_; (first | refine o_sv rfl (by decide) ?_ | (refine k_call ?_; (first | refine o_pure (first := []) (cap := []) (ps := [I .i64 hi]) hd2 rfl rfl (by decide) ?_ | refine o_pure (first := []) (cap := []) (ps := [I .i64 lo]) hd1 rfl rfl (by decide) ?_)) | refine o_val (v_sadd (by (try simp only [sa]); omega)) rfl rfl (by decide) ?_)) | (refine k_ops ?_; (first | refine o_go (by first | exact .inl rfl | exact .inr ⟨_, _, _, rfl, rfl, rfl⟩) ?_ | refine o_nil ?_ | refine o_no rfl rfl (by decide) ?_ | refine o_casep rfl rfl (fun _ => ?_) (fun _ => ?_))) | (refine k_run ?_; (first | refine r_seq ?_ | refine r_region ?_ | refine r_false rfl ?_ | refine r_skip ?_ | refine r_block ?_ | refine r_inBlock ?_ | refine r_if rfl (fun _ => ?_) (fun _ => ?_))))
    all_goals try (exfalso; omega)
    all_goals exact r_ret Tryd.func52 _ (res_one rfl rfl) ⟨rfl, rfl⟩
end Go.Proofs.YtjmbjgecfpggdaaDoor
