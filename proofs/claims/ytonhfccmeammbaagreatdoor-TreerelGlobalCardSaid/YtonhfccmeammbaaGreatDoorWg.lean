/- What the functions that judge a constraint between two tokens compute. -/
import Derived.Test.YtonhfccmeammbaaGreatDoorWa
import Derived.Test.YtonhfccmeammbaaGreatDoorFe
import Derived.Test.YtonhfccmeammbaaGreatDoorWd
import Derived.Test.YtonhfccmeammbaaGreatDoorWf
set_option linter.all false
set_option linter.unusedVariables false
set_option linter.unusedSimpArgs false
namespace Go.Proofs.YtonhfccmeammbaaGreatDoor
open Go.Ab
set_option maxHeartbeats 20000000
set_option linter.unusedVariables false
set_option linter.unusedSimpArgs false
attribute [local irreducible] Run Ops Op1 Does Val Tr PureF Eff1 NF Rel

/-- a constraint without parts that names no value -/
structure Lf where
  op : Int
  a : Str
  b : Str
  name : Str
  mn : Int
  mx : Int
  args : List Str
def Lf.cs (g : Lf) : List D := [Dint g.op, Dstr g.a, Dstr g.b, Dstr g.name, Dstr ⟨#[]⟩, Dstr ⟨#[]⟩, Dbool false, Dint g.mn, Dint g.mx, strs g.args, .slice []]
abbrev Lf.d (g : Lf) : PV := .d (.agg g.cs)

theorem none_s (g : Lf) (h : g.op ≠ 0) : PureF Tryz.prog 57 [g.d] (B false) := by
  refine pure_of fun H => ?_
  refine spec_of Tryz.func57 (by kernel_rfl) rfl (by simp) ?_
  dsimp only [Tryz.f57]
  repeat' (first | (refine k_op1 ?_; (first | refine o_sv rfl (by decide) ?_ | (refine k_load ?_; (refine o_val (v_load rfl rfl rfl rfl) rfl rfl (by decide) ?_)) | (refine k_field ?_; (refine o_val (v_field rfl rfl) rfl rfl (by decide) ?_)) | (refine k_blt ?_; (first | refine o_val (v_lenm rfl) rfl rfl (by decide) ?_ | refine o_val (v_len rfl) rfl rfl (by decide) ?_)) | (refine k_box ?_; (refine o_does (d_box_d rfl rfl (by decide)) ?_)))) | (refine k_ops ?_; (first | refine o_go (by first | exact .inl rfl | exact .inr ⟨_, _, _, rfl, rfl, rfl⟩) ?_ | refine o_nil ?_ | refine o_no rfl rfl (by decide) ?_ | refine o_casep rfl rfl (fun _ => ?_) (fun _ => ?_))) | (refine k_run ?_; (first | refine r_seq ?_ | refine r_region ?_)))
  all_goals first
    | (exfalso; omega)
    | exact r_ret Tryz.func57 _ (res_one rfl rfl) ⟨rfl, rfl⟩
theorem measure_s (g : Lf) : PureF Tryz.prog 58 [g.d, I .i64 0, I .i64 1] (.tup [I .i64 1, I .i64 1]) := by
  refine pure_of fun H => ?_
  refine spec_of Tryz.func58 (by kernel_rfl) rfl (by simp) ?_
  dsimp only [Tryz.f58]
  repeat' (first | (refine k_op1 ?_; (first | refine o_sv rfl (by decide) ?_ | (refine k_load ?_; (refine o_val (v_load rfl rfl rfl rfl) rfl rfl (by decide) ?_)) | (refine k_field ?_; (refine o_val (v_field rfl rfl) rfl rfl (by decide) ?_)) | (refine k_bin ?_; (refine o_val (v_add (wi64 (by omega) (by omega))) rfl rfl (by decide) ?_)) | (refine k_blt ?_; (refine o_val (v_len rfl) rfl rfl (by decide) ?_)) | (refine k_box ?_; (refine o_does (d_box_d rfl rfl (by decide)) ?_)))) | (refine k_ops ?_; (first | refine o_go (by first | exact .inl rfl | exact .inr ⟨_, _, _, rfl, rfl, rfl⟩) ?_ | refine o_nil ?_)) | (refine k_run ?_; (first | refine r_seq ?_ | refine r_region ?_ | refine r_block ?_)))
  refine r_loop ?_
  refine r_inLoop ?_
  repeat' (first | (refine k_op1 ?_; (refine o_sv rfl (by decide) ?_)) | (refine k_ops ?_; (first | refine o_go (by first | exact .inl rfl | exact .inr ⟨_, _, _, rfl, rfl, rfl⟩) ?_ | refine o_nil ?_)) | (refine k_run ?_; (first | refine r_seq ?_ | refine r_region ?_ | refine r_false rfl ?_ | refine r_exit rfl ?_)))
  all_goals first
    | (exfalso; omega)
    | exact r_ret Tryz.func58 _ (res_two rfl rfl rfl) ⟨rfl, rfl⟩
theorem idxNil_s (fv : PV) : PureF Tryz.prog 91 [.d (.slice []), fv] (I .i64 (-1)) := by
  refine pure_of fun H => ?_
  refine spec_of Tryz.func91 (by kernel_rfl) rfl (by simp) ?_
  dsimp only [Tryz.f91]
  repeat' (first | (refine k_op1 ?_; (first | refine o_sv rfl (by decide) ?_ | (refine k_blt ?_; (refine o_val (v_len rfl) rfl rfl (by decide) ?_)))) | (refine k_ops ?_; (first | refine o_go (by first | exact .inl rfl | exact .inr ⟨_, _, _, rfl, rfl, rfl⟩) ?_ | refine o_nil ?_)) | (refine k_run ?_; (first | refine r_seq ?_ | refine r_region ?_ | refine r_block ?_)))
  refine r_loop ?_
  refine r_inLoop ?_
  repeat' (first | (refine k_op1 ?_; (refine o_sv rfl (by decide) ?_)) | (refine k_ops ?_; (first | refine o_go (by first | exact .inl rfl | exact .inr ⟨_, _, _, rfl, rfl, rfl⟩) ?_ | refine o_nil ?_)) | (refine k_run ?_; (first | refine r_seq ?_ | refine r_region ?_ | refine r_false rfl ?_ | refine r_exit rfl ?_)))
  all_goals first
    | (exfalso; omega)
    | exact r_ret Tryz.func91 _ (res_one rfl rfl) ⟨rfl, rfl⟩
theorem conNil_s (fv : PV) : PureF Tryz.prog 63 [.d (.slice []), fv] (B false) := by
  refine pure_of fun H => ?_
  refine spec_of Tryz.func63 (by kernel_rfl) rfl (by simp) ?_
  dsimp only [Tryz.f63]
  repeat' (first | (refine k_op1 ?_; (first | refine o_sv rfl (by decide) ?_ | (refine k_call ?_; (refine o_fn (idxNil_s _) rfl (by decide) ?_)))) | (refine k_ops ?_; (first | refine o_go (by first | exact .inl rfl | exact .inr ⟨_, _, _, rfl, rfl, rfl⟩) ?_ | refine o_nil ?_)) | (refine k_run ?_; (first | refine r_seq ?_ | refine r_region ?_)))
  all_goals first
    | (exfalso; omega)
    | exact r_ret Tryz.func63 _ (res_one rfl rfl) ⟨rfl, rfl⟩
theorem atom_s (g : Lf) (h : g.op = 6 ∨ g.op = 7 ∨ g.op = 8 ∨ g.op = 9 ∨ g.op = 10) (h1 : g.op ≠ 9 → g.name = ⟨#[]⟩) (h2 : g.op ≠ 10 → g.mn = 0 ∧ g.mx = 0) (h3 : g.op ≠ 8 → g.args = []) (h4 : g.op = 10 → g.b = ⟨#[]⟩) (hl : g.args.length ≤ 1000000) : PureF Tryz.prog 60 [g.d] (B true) := by
  refine pure_of fun H => ?_
  refine spec_of Tryz.func60 (by kernel_rfl) rfl (by simp) ?_
  dsimp only [Tryz.f60]
  obtain ⟨op, a, b, name, mn, mx, args⟩ := g
  simp only at h h1 h2 h3 h4 hl
  rcases h with rfl | rfl | rfl | rfl | rfl
  · obtain rfl := h1 (by decide); obtain ⟨rfl, rfl⟩ := h2 (by decide); obtain rfl := h3 (by decide)
    repeat' (first | (refine k_op1 ?_; (first | refine o_sv rfl (by decide) ?_ | (refine k_load ?_; (refine o_val (v_load rfl rfl rfl rfl) rfl rfl (by decide) ?_)) | (refine k_field ?_; (refine o_val (v_field rfl rfl) rfl rfl (by decide) ?_)) | (refine k_bin ?_; (refine o_val (v_beql rfl) rfl rfl (by decide) ?_)) | (refine k_blt ?_; (first | refine o_val (v_lenn rfl) rfl rfl (by decide) ?_ | refine o_val (v_lenm rfl) rfl rfl (by decide) ?_ | refine o_val (v_len rfl) rfl rfl (by decide) ?_)) | (refine k_store ?_; (refine o_store0 rfl rfl rfl rfl rfl rfl ?_)) | (refine k_alloc ?_; (refine o_does (d_alloc rfl rfl (by decide)) ?_)) | (refine k_box ?_; (refine o_does (d_box_d rfl rfl (by decide)) ?_)) | (refine k_build ?_; (refine o_build rfl rfl rfl rfl rfl rfl rfl (by decide) ?_)))) | (refine k_ops ?_; (first | refine o_go (by first | exact .inl rfl | exact .inr ⟨_, _, _, rfl, rfl, rfl⟩) ?_ | refine o_nil ?_ | refine o_no rfl rfl (by decide) ?_ | refine o_casep rfl rfl (fun _ => ?_) (fun _ => ?_))) | (refine k_run ?_; (first | refine r_seq ?_ | refine r_region ?_ | refine r_true rfl ?_ | refine r_false rfl ?_ | refine r_skip ?_ | refine r_block ?_ | refine r_inBlock ?_)))
    all_goals first
      | (exfalso; omega)
      | exact r_ret Tryz.func60 _ (res_one rfl rfl) ⟨rfl, rfl⟩
      | (exfalso; simp_all; done)
  · obtain rfl := h1 (by decide); obtain ⟨rfl, rfl⟩ := h2 (by decide); obtain rfl := h3 (by decide)
    repeat' (first | (refine k_op1 ?_; (first | refine o_sv rfl (by decide) ?_ | (refine k_load ?_; (refine o_val (v_load rfl rfl rfl rfl) rfl rfl (by decide) ?_)) | (refine k_field ?_; (refine o_val (v_field rfl rfl) rfl rfl (by decide) ?_)) | (refine k_bin ?_; (refine o_val (v_beql rfl) rfl rfl (by decide) ?_)) | (refine k_blt ?_; (first | refine o_val (v_lenn rfl) rfl rfl (by decide) ?_ | refine o_val (v_lenm rfl) rfl rfl (by decide) ?_ | refine o_val (v_len rfl) rfl rfl (by decide) ?_)) | (refine k_store ?_; (refine o_store0 rfl rfl rfl rfl rfl rfl ?_)) | (refine k_alloc ?_; (refine o_does (d_alloc rfl rfl (by decide)) ?_)) | (refine k_box ?_; (refine o_does (d_box_d rfl rfl (by decide)) ?_)) | (refine k_build ?_; (refine o_build rfl rfl rfl rfl rfl rfl rfl (by decide) ?_)))) | (refine k_ops ?_; (first | refine o_go (by first | exact .inl rfl | exact .inr ⟨_, _, _, rfl, rfl, rfl⟩) ?_ | refine o_nil ?_ | refine o_no rfl rfl (by decide) ?_ | refine o_casep rfl rfl (fun _ => ?_) (fun _ => ?_))) | (refine k_run ?_; (first | refine r_seq ?_ | refine r_region ?_ | refine r_true rfl ?_ | refine r_false rfl ?_ | refine r_skip ?_ | refine r_block ?_ | refine r_inBlock ?_)))
    all_goals first
      | (exfalso; omega)
      | exact r_ret Tryz.func60 _ (res_one rfl rfl) ⟨rfl, rfl⟩
      | (exfalso; simp_all; done)
  · obtain rfl := h1 (by decide); obtain ⟨rfl, rfl⟩ := h2 (by decide)
    repeat' (first | (refine k_op1 ?_; (first | refine o_sv rfl (by decide) ?_ | (refine k_load ?_; (refine o_val (v_load rfl rfl rfl rfl) rfl rfl (by decide) ?_)) | (refine k_field ?_; (refine o_val (v_field rfl rfl) rfl rfl (by decide) ?_)) | (refine k_bin ?_; (refine o_val (v_beql rfl) rfl rfl (by decide) ?_)) | (refine k_blt ?_; (first | refine o_val (v_lenm rfl) rfl rfl (by decide) ?_ | refine o_val (v_len rfl) rfl rfl (by decide) ?_)) | (refine k_store ?_; (refine o_store0 rfl rfl rfl rfl rfl rfl ?_)) | (refine k_alloc ?_; (refine o_does (d_alloc rfl rfl (by decide)) ?_)) | (refine k_box ?_; (refine o_does (d_box_d rfl rfl (by decide)) ?_)) | (refine k_build ?_; (refine o_build rfl rfl rfl rfl rfl rfl rfl (by decide) ?_)))) | (refine k_ops ?_; (first | refine o_go (by first | exact .inl rfl | exact .inr ⟨_, _, _, rfl, rfl, rfl⟩) ?_ | refine o_nil ?_ | refine o_no rfl rfl (by decide) ?_ | refine o_casep rfl rfl (fun _ => ?_) (fun _ => ?_))) | (refine k_run ?_; (first | refine r_seq ?_ | refine r_region ?_ | refine r_true rfl ?_ | refine r_false rfl ?_ | refine r_block ?_ | refine r_inBlock ?_)))
    all_goals first
      | (exfalso; omega)
      | exact r_ret Tryz.func60 _ (res_one rfl rfl) ⟨rfl, rfl⟩
      | (exfalso; simp_all; done)
  · obtain ⟨rfl, rfl⟩ := h2 (by decide); obtain rfl := h3 (by decide)
    repeat' (first | (refine k_op1 ?_; (first | refine o_sv rfl (by decide) ?_ | (refine k_load ?_; (refine o_val (v_load rfl rfl rfl rfl) rfl rfl (by decide) ?_)) | (refine k_field ?_; (refine o_val (v_field rfl rfl) rfl rfl (by decide) ?_)) | (refine k_bin ?_; (refine o_val (v_beql rfl) rfl rfl (by decide) ?_)) | (refine k_blt ?_; (first | refine o_val (v_lenn rfl) rfl rfl (by decide) ?_ | refine o_val (v_lenm rfl) rfl rfl (by decide) ?_ | refine o_val (v_len rfl) rfl rfl (by decide) ?_)) | (refine k_store ?_; (refine o_store0 rfl rfl rfl rfl rfl rfl ?_)) | (refine k_alloc ?_; (refine o_does (d_alloc rfl rfl (by decide)) ?_)) | (refine k_box ?_; (refine o_does (d_box_d rfl rfl (by decide)) ?_)) | (refine k_build ?_; (refine o_build rfl rfl rfl rfl rfl rfl rfl (by decide) ?_)))) | (refine k_ops ?_; (first | refine o_go (by first | exact .inl rfl | exact .inr ⟨_, _, _, rfl, rfl, rfl⟩) ?_ | refine o_nil ?_ | refine o_no rfl rfl (by decide) ?_ | refine o_casep rfl rfl (fun _ => ?_) (fun _ => ?_))) | (refine k_run ?_; (first | refine r_seq ?_ | refine r_region ?_ | refine r_true rfl ?_ | refine r_false rfl ?_ | refine r_block ?_ | refine r_inBlock ?_)))
    all_goals first
      | (exfalso; omega)
      | exact r_ret Tryz.func60 _ (res_one rfl rfl) ⟨rfl, rfl⟩
      | (exfalso; simp_all; done)
  · obtain rfl := h1 (by decide); obtain rfl := h3 (by decide); obtain rfl := h4 rfl
    repeat' (first | (refine k_op1 ?_; (first | refine o_sv rfl (by decide) ?_ | (refine k_load ?_; (refine o_val (v_load rfl rfl rfl rfl) rfl rfl (by decide) ?_)) | (refine k_field ?_; (refine o_val (v_field rfl rfl) rfl rfl (by decide) ?_)) | (refine k_bin ?_; (refine o_val (v_beql rfl) rfl rfl (by decide) ?_)) | (refine k_blt ?_; (first | refine o_val (v_lenn rfl) rfl rfl (by decide) ?_ | refine o_val (v_lenm rfl) rfl rfl (by decide) ?_ | refine o_val (v_len rfl) rfl rfl (by decide) ?_)) | (refine k_store ?_; (refine o_store0 rfl rfl rfl rfl rfl rfl ?_)) | (refine k_alloc ?_; (refine o_does (d_alloc rfl rfl (by decide)) ?_)) | (refine k_box ?_; (refine o_does (d_box_d rfl rfl (by decide)) ?_)) | (refine k_build ?_; (refine o_build rfl rfl rfl rfl rfl rfl rfl (by decide) ?_)))) | (refine k_ops ?_; (first | refine o_go (by first | exact .inl rfl | exact .inr ⟨_, _, _, rfl, rfl, rfl⟩) ?_ | refine o_nil ?_ | refine o_no rfl rfl (by decide) ?_ | refine o_casep rfl rfl (fun _ => ?_) (fun _ => ?_))) | (refine k_run ?_; (first | refine r_seq ?_ | refine r_region ?_ | refine r_true rfl ?_ | refine r_false rfl ?_ | refine r_block ?_ | refine r_tr ?_ | refine r_inBlock ?_)) | (refine k_tr ?_; (first | (refine kt_end ?_; refine t_end mix (by kernel_rfl) ?_) | (refine kt_load ?_; (refine t_val (v_load rfl rfl rfl rfl) (by first | exact rfl | exact ⟨_, rfl, rfl, rfl⟩) rfl rfl (by decide) ?_)) | (refine kt_field ?_; (refine t_val (v_field rfl rfl) (by first | exact rfl | exact ⟨_, rfl, rfl, rfl⟩) rfl rfl (by decide) ?_)) | (refine kt_store ?_; (refine t_store0 (by first | exact rfl | exact ⟨_, rfl, rfl, rfl⟩) rfl rfl rfl rfl rfl rfl ?_)))))
    all_goals first
      | (exfalso; omega)
      | exact r_ret Tryz.func60 _ (res_one rfl rfl) ⟨rfl, rfl⟩
      | (exfalso; simp_all; done)
end Go.Proofs.YtonhfccmeammbaaGreatDoor
namespace Go.Proofs.YtonhfccmeammbaaGreatDoor
open Go.Ab
set_option maxHeartbeats 20000000
set_option linter.unusedVariables false
set_option linter.unusedSimpArgs false
attribute [local irreducible] Run Ops Op1 Does Val Tr PureF Eff1 NF Rel

def fidx {α : Type} (p : α → Bool) : List α → Nat → Int
  | [], _ => -1
  | x :: r, k => if p x then (k : Int) else fidx p r (k + 1)
theorem fidx_any {α : Type} (p : α → Bool) : ∀ (l : List α) (k : Nat), decide (0 ≤ fidx p l k) = l.any p
  | [], k => rfl
  | x :: r, k => by
    have ih := fidx_any p r (k + 1)
    by_cases h : p x = true
    · simp [fidx, h]
    · simp only [Bool.not_eq_true] at h
      simp only [List.any_cons, h, Bool.false_or, ← ih]
      simp [fidx, h]
theorem fidx_range {α : Type} (p : α → Bool) : ∀ (l : List α) (k : Nat), fidx p l k = -1 ∨ ((k : Int) ≤ fidx p l k ∧ fidx p l k < k + l.length)
  | [], k => .inl rfl
  | x :: r, k => by
    simp only [fidx, List.length_cons]
    by_cases h : p x = true
    · rw [if_pos h]; right; omega
    · rw [if_neg h]
      rcases fidx_range p r (k + 1) with e | e
      · exact .inl e
      · right; omega
theorem drop_cons' {α : Type} {l : List α} {k : Nat} {x : α} (h : l[k]? = some x) : l.drop k = x :: l.drop (k + 1) := by
  have hk := (List.getElem?_eq_some_iff.1 h)
  rw [List.drop_eq_getElem_cons hk.1, hk.2]

theorem idx_int {cf : FuncId} {sl kk : Nat} {blk : Blk} (p : Int → Bool) (xs : List (Int)) (hl : xs.length ≤ 1000000) (hcl : ∀ k x, x ∈ xs → Eff1 Tryz.prog cf [.d (Dint x), .ptr (k, sl) 0] [((k, sl), blk)] [] (B (p x))) :
    Eff1 Tryz.prog 92 [.d (ints xs), .fn (.func cf) [] [.ptr (kk, sl) 0]] [((kk, sl), blk)] [] (I .i64 (fidx p xs 0)) := by
  refine eff_of fun H hH => ?_
  have hH0 := hH ((kk, sl), blk) (by simp)
  refine spec_of Tryz.func92 (by kernel_rfl) rfl (by simp) ?_
  dsimp only [Tryz.f92]
  repeat' (first | (refine k_op1 ?_; (first | refine o_sv rfl (by decide) ?_ | (refine k_blt ?_; (refine o_val (v_lenm rfl) rfl rfl (by decide) ?_)))) | (refine k_ops ?_; (first | refine o_go (by first | exact .inl rfl | exact .inr ⟨_, _, _, rfl, rfl, rfl⟩) ?_ | refine o_nil ?_)) | (refine k_run ?_; (first | refine r_seq ?_ | refine r_region ?_ | refine r_block ?_)))
  refine r_loop ?_
  refine r_less (r_inv (fun q : Nat => ⟨19, [(0, .d (ints xs)), (1, .fn (.func cf) [] [.ptr (kk + 1, sl) 0]), (7, I .i64 xs.length), (8, I .i64 (q : Nat))], [], H⟩) (fun q => q ≤ xs.length ∧ fidx p (xs.drop q) q = fidx p xs 0) (fun q => xs.length - q) ?_ 0 ⟨Nat.zero_le _, rfl⟩) rfl rfl
  intro k ⟨hk, hi⟩ ih
  by_cases hlt : k < xs.length
  · obtain ⟨x, hx⟩ : ∃ x, xs[k]? = some x := ⟨_, List.getElem?_eq_getElem hlt⟩
    have hm := List.mem_of_getElem? hx
    rw [drop_cons' hx, fidx] at hi
    repeat' (first | (refine k_op1 ?_; (first | refine o_sv rfl (by decide) ?_ | (refine k_load ?_; (refine o_val (v_loade rfl rfl rfl) rfl rfl (by decide) ?_)) | (refine k_index ?_; (refine o_val (v_index rfl (by omega) (idx hx) rfl) rfl rfl (by decide) ?_)) | (refine k_bin ?_; (refine o_val (v_add (wi64 (by omega) (by omega))) rfl rfl (by decide) ?_)) | (refine k_call ?_; (refine o_fnv (first := []) (cap := [.ptr (kk + 1, sl) 0]) (ps := [.d (Dint x)]) (bs := [((kk + 1, sl), blk)]) (hcl (kk + 1) x hm) rfl rfl (bk1 hH0) (by decide) ?_)))) | (refine k_ops ?_; (first | refine o_go (by first | exact .inl rfl | exact .inr ⟨_, _, _, rfl, rfl, rfl⟩) ?_ | refine o_nil ?_)) | (refine k_run ?_; (first | refine r_seq ?_ | refine r_region ?_ | refine r_skip ?_ | refine r_block ?_ | refine r_inBlock ?_ | refine r_if rfl (fun _ => ?_) (fun _ => ?_) | refine r_cond rfl (fun _ => ?_) (fun _ => ?_) | refine r_exit rfl ?_)))
    all_goals try (exfalso; omega)
    all_goals first
      | (refine r_ret Tryz.func92 _ (res_one rfl rfl) ⟨?_, rfl⟩; rw [← hi, if_pos (by assumption)])
      | exact r_less (ih (k + 1) ⟨by omega, by rw [← hi, if_neg (by simp_all)]⟩ (by omega)) rfl rfl
  · obtain rfl : k = xs.length := by omega
    rw [List.drop_length, fidx] at hi
    repeat' (first | (refine k_op1 ?_; (refine o_sv rfl (by decide) ?_)) | (refine k_ops ?_; (first | refine o_go (by first | exact .inl rfl | exact .inr ⟨_, _, _, rfl, rfl, rfl⟩) ?_ | refine o_nil ?_)) | (refine k_run ?_; (first | refine r_seq ?_ | refine r_region ?_ | refine r_skip ?_ | refine r_block ?_ | refine r_if rfl (fun _ => ?_) (fun _ => ?_) | refine r_exit rfl ?_)))
    all_goals try (exfalso; omega)
    all_goals exact r_ret Tryz.func92 _ (res_one rfl rfl) ⟨by rw [← hi], rfl⟩
theorem con_int {cf : FuncId} {sl kk : Nat} {blk : Blk} (p : Int → Bool) (xs : List (Int)) (hl : xs.length ≤ 1000000) (hcl : ∀ k x, x ∈ xs → Eff1 Tryz.prog cf [.d (Dint x), .ptr (k, sl) 0] [((k, sl), blk)] [] (B (p x))) :
    Eff1 Tryz.prog 65 [.d (ints xs), .fn (.func cf) [] [.ptr (kk, sl) 0]] [((kk, sl), blk)] [] (B (xs.any p)) := by
  refine eff_of fun H hH => ?_
  have hH0 := hH ((kk, sl), blk) (by simp)
  refine spec_of Tryz.func65 (by kernel_rfl) rfl (by simp) ?_
  dsimp only [Tryz.f65]
  repeat' (first | (refine k_op1 ?_; (first | refine o_sv rfl (by decide) ?_ | (refine k_call ?_; (refine o_effk (idx_int (kk := kk + 1) p xs hl hcl) rfl (bk1 hH0) (by decide) ?_)))) | (refine k_ops ?_; (first | refine o_go (by first | exact .inl rfl | exact .inr ⟨_, _, _, rfl, rfl, rfl⟩) ?_ | refine o_nil ?_)) | (refine k_run ?_; (first | refine r_seq ?_ | refine r_region ?_)))
  all_goals exact r_ret Tryz.func65 _ (res_one rfl rfl) ⟨by rw [← fidx_any p xs 0], rfl⟩

theorem idx_node {cf : FuncId} {sl kk : Nat} {blk : Blk} (p : Node → Bool) (xs : List (Node)) (hl : xs.length ≤ 1000000) (hcl : ∀ k x, x ∈ xs → Eff1 Tryz.prog cf [.d (.agg x.cs), .ptr (k, sl) 0] [((k, sl), blk)] [] (B (p x))) :
    Eff1 Tryz.prog 157 [.d (.slice (xs.map Node.cs)), .fn (.func cf) [] [.ptr (kk, sl) 0]] [((kk, sl), blk)] [] (I .i64 (fidx p xs 0)) := by
  refine eff_of fun H hH => ?_
  have hH0 := hH ((kk, sl), blk) (by simp)
  refine spec_of Tryz.func157 (by kernel_rfl) rfl (by simp) ?_
  dsimp only [Tryz.f157]
  repeat' (first | (refine k_op1 ?_; (first | refine o_sv rfl (by decide) ?_ | (refine k_blt ?_; (refine o_val (v_lenm rfl) rfl rfl (by decide) ?_)))) | (refine k_ops ?_; (first | refine o_go (by first | exact .inl rfl | exact .inr ⟨_, _, _, rfl, rfl, rfl⟩) ?_ | refine o_nil ?_)) | (refine k_run ?_; (first | refine r_seq ?_ | refine r_region ?_ | refine r_block ?_)))
  refine r_loop ?_
  refine r_less (r_inv (fun q : Nat => ⟨19, [(0, .d (.slice (xs.map Node.cs))), (1, .fn (.func cf) [] [.ptr (kk + 1, sl) 0]), (7, I .i64 xs.length), (8, I .i64 (q : Nat))], [], H⟩) (fun q => q ≤ xs.length ∧ fidx p (xs.drop q) q = fidx p xs 0) (fun q => xs.length - q) ?_ 0 ⟨Nat.zero_le _, rfl⟩) rfl rfl
  intro k ⟨hk, hi⟩ ih
  by_cases hlt : k < xs.length
  · obtain ⟨x, hx⟩ : ∃ x, xs[k]? = some x := ⟨_, List.getElem?_eq_getElem hlt⟩
    have hm := List.mem_of_getElem? hx
    rw [drop_cons' hx, fidx] at hi
    repeat' (first | (refine k_op1 ?_; (first | refine o_sv rfl (by decide) ?_ | (refine k_load ?_; (refine o_val (v_loadea rfl rfl) rfl rfl (by decide) ?_)) | (refine k_index ?_; (refine o_val (v_index rfl (by omega) (idx hx) rfl) rfl rfl (by decide) ?_)) | (refine k_bin ?_; (refine o_val (v_add (wi64 (by omega) (by omega))) rfl rfl (by decide) ?_)) | (refine k_call ?_; (refine o_fnv (first := []) (cap := [.ptr (kk + 1, sl) 0]) (ps := [.d (.agg x.cs)]) (bs := [((kk + 1, sl), blk)]) (hcl (kk + 1) x hm) rfl rfl (bk1 hH0) (by decide) ?_)))) | (refine k_ops ?_; (first | refine o_go (by first | exact .inl rfl | exact .inr ⟨_, _, _, rfl, rfl, rfl⟩) ?_ | refine o_nil ?_)) | (refine k_run ?_; (first | refine r_seq ?_ | refine r_region ?_ | refine r_skip ?_ | refine r_block ?_ | refine r_inBlock ?_ | refine r_if rfl (fun _ => ?_) (fun _ => ?_) | refine r_cond rfl (fun _ => ?_) (fun _ => ?_) | refine r_exit rfl ?_)))
    all_goals try (exfalso; omega)
    all_goals first
      | (refine r_ret Tryz.func157 _ (res_one rfl rfl) ⟨?_, rfl⟩; rw [← hi, if_pos (by assumption)])
      | exact r_less (ih (k + 1) ⟨by omega, by rw [← hi, if_neg (by simp_all)]⟩ (by omega)) rfl rfl
  · obtain rfl : k = xs.length := by omega
    rw [List.drop_length, fidx] at hi
    repeat' (first | (refine k_op1 ?_; (refine o_sv rfl (by decide) ?_)) | (refine k_ops ?_; (first | refine o_go (by first | exact .inl rfl | exact .inr ⟨_, _, _, rfl, rfl, rfl⟩) ?_ | refine o_nil ?_)) | (refine k_run ?_; (first | refine r_seq ?_ | refine r_region ?_ | refine r_skip ?_ | refine r_block ?_ | refine r_if rfl (fun _ => ?_) (fun _ => ?_) | refine r_exit rfl ?_)))
    all_goals try (exfalso; omega)
    all_goals exact r_ret Tryz.func157 _ (res_one rfl rfl) ⟨by rw [← hi], rfl⟩
theorem con_node {cf : FuncId} {sl kk : Nat} {blk : Blk} (p : Node → Bool) (xs : List (Node)) (hl : xs.length ≤ 1000000) (hcl : ∀ k x, x ∈ xs → Eff1 Tryz.prog cf [.d (.agg x.cs), .ptr (k, sl) 0] [((k, sl), blk)] [] (B (p x))) :
    Eff1 Tryz.prog 129 [.d (.slice (xs.map Node.cs)), .fn (.func cf) [] [.ptr (kk, sl) 0]] [((kk, sl), blk)] [] (B (xs.any p)) := by
  refine eff_of fun H hH => ?_
  have hH0 := hH ((kk, sl), blk) (by simp)
  refine spec_of Tryz.func129 (by kernel_rfl) rfl (by simp) ?_
  dsimp only [Tryz.f129]
  repeat' (first | (refine k_op1 ?_; (first | refine o_sv rfl (by decide) ?_ | (refine k_call ?_; (refine o_effk (idx_node (kk := kk + 1) p xs hl hcl) rfl (bk1 hH0) (by decide) ?_)))) | (refine k_ops ?_; (first | refine o_go (by first | exact .inl rfl | exact .inr ⟨_, _, _, rfl, rfl, rfl⟩) ?_ | refine o_nil ?_)) | (refine k_run ?_; (first | refine r_seq ?_ | refine r_region ?_)))
  all_goals exact r_ret Tryz.func129 _ (res_one rfl rfl) ⟨by rw [← fidx_any p xs 0], rfl⟩

theorem idx_reg {cf : FuncId} {sl kk : Nat} {blk : Blk} (p : Region → Bool) (xs : List (Region)) (hl : xs.length ≤ 1000000) (hcl : ∀ k x, x ∈ xs → Eff1 Tryz.prog cf [.d (.agg x.cs), .ptr (k, sl) 0] [((k, sl), blk)] [] (B (p x))) :
    Eff1 Tryz.prog 156 [.d (.slice (xs.map Region.cs)), .fn (.func cf) [] [.ptr (kk, sl) 0]] [((kk, sl), blk)] [] (I .i64 (fidx p xs 0)) := by
  refine eff_of fun H hH => ?_
  have hH0 := hH ((kk, sl), blk) (by simp)
  refine spec_of Tryz.func156 (by kernel_rfl) rfl (by simp) ?_
  dsimp only [Tryz.f156]
  repeat' (first | (refine k_op1 ?_; (first | refine o_sv rfl (by decide) ?_ | (refine k_blt ?_; (refine o_val (v_lenm rfl) rfl rfl (by decide) ?_)))) | (refine k_ops ?_; (first | refine o_go (by first | exact .inl rfl | exact .inr ⟨_, _, _, rfl, rfl, rfl⟩) ?_ | refine o_nil ?_)) | (refine k_run ?_; (first | refine r_seq ?_ | refine r_region ?_ | refine r_block ?_)))
  refine r_loop ?_
  refine r_less (r_inv (fun q : Nat => ⟨19, [(0, .d (.slice (xs.map Region.cs))), (1, .fn (.func cf) [] [.ptr (kk + 1, sl) 0]), (7, I .i64 xs.length), (8, I .i64 (q : Nat))], [], H⟩) (fun q => q ≤ xs.length ∧ fidx p (xs.drop q) q = fidx p xs 0) (fun q => xs.length - q) ?_ 0 ⟨Nat.zero_le _, rfl⟩) rfl rfl
  intro k ⟨hk, hi⟩ ih
  by_cases hlt : k < xs.length
  · obtain ⟨x, hx⟩ : ∃ x, xs[k]? = some x := ⟨_, List.getElem?_eq_getElem hlt⟩
    have hm := List.mem_of_getElem? hx
    rw [drop_cons' hx, fidx] at hi
    repeat' (first | (refine k_op1 ?_; (first | refine o_sv rfl (by decide) ?_ | (refine k_load ?_; (refine o_val (v_loadea rfl rfl) rfl rfl (by decide) ?_)) | (refine k_index ?_; (refine o_val (v_index rfl (by omega) (idx hx) rfl) rfl rfl (by decide) ?_)) | (refine k_bin ?_; (refine o_val (v_add (wi64 (by omega) (by omega))) rfl rfl (by decide) ?_)) | (refine k_call ?_; (refine o_fnv (first := []) (cap := [.ptr (kk + 1, sl) 0]) (ps := [.d (.agg x.cs)]) (bs := [((kk + 1, sl), blk)]) (hcl (kk + 1) x hm) rfl rfl (bk1 hH0) (by decide) ?_)))) | (refine k_ops ?_; (first | refine o_go (by first | exact .inl rfl | exact .inr ⟨_, _, _, rfl, rfl, rfl⟩) ?_ | refine o_nil ?_)) | (refine k_run ?_; (first | refine r_seq ?_ | refine r_region ?_ | refine r_skip ?_ | refine r_block ?_ | refine r_inBlock ?_ | refine r_if rfl (fun _ => ?_) (fun _ => ?_) | refine r_cond rfl (fun _ => ?_) (fun _ => ?_) | refine r_exit rfl ?_)))
    all_goals try (exfalso; omega)
    all_goals first
      | (refine r_ret Tryz.func156 _ (res_one rfl rfl) ⟨?_, rfl⟩; rw [← hi, if_pos (by assumption)])
      | exact r_less (ih (k + 1) ⟨by omega, by rw [← hi, if_neg (by simp_all)]⟩ (by omega)) rfl rfl
  · obtain rfl : k = xs.length := by omega
    rw [List.drop_length, fidx] at hi
    repeat' (first | (refine k_op1 ?_; (refine o_sv rfl (by decide) ?_)) | (refine k_ops ?_; (first | refine o_go (by first | exact .inl rfl | exact .inr ⟨_, _, _, rfl, rfl, rfl⟩) ?_ | refine o_nil ?_)) | (refine k_run ?_; (first | refine r_seq ?_ | refine r_region ?_ | refine r_skip ?_ | refine r_block ?_ | refine r_if rfl (fun _ => ?_) (fun _ => ?_) | refine r_exit rfl ?_)))
    all_goals try (exfalso; omega)
    all_goals exact r_ret Tryz.func156 _ (res_one rfl rfl) ⟨by rw [← hi], rfl⟩
theorem con_reg {cf : FuncId} {sl kk : Nat} {blk : Blk} (p : Region → Bool) (xs : List (Region)) (hl : xs.length ≤ 1000000) (hcl : ∀ k x, x ∈ xs → Eff1 Tryz.prog cf [.d (.agg x.cs), .ptr (k, sl) 0] [((k, sl), blk)] [] (B (p x))) :
    Eff1 Tryz.prog 126 [.d (.slice (xs.map Region.cs)), .fn (.func cf) [] [.ptr (kk, sl) 0]] [((kk, sl), blk)] [] (B (xs.any p)) := by
  refine eff_of fun H hH => ?_
  have hH0 := hH ((kk, sl), blk) (by simp)
  refine spec_of Tryz.func126 (by kernel_rfl) rfl (by simp) ?_
  dsimp only [Tryz.f126]
  repeat' (first | (refine k_op1 ?_; (first | refine o_sv rfl (by decide) ?_ | (refine k_call ?_; (refine o_effk (idx_reg (kk := kk + 1) p xs hl hcl) rfl (bk1 hH0) (by decide) ?_)))) | (refine k_ops ?_; (first | refine o_go (by first | exact .inl rfl | exact .inr ⟨_, _, _, rfl, rfl, rfl⟩) ?_ | refine o_nil ?_)) | (refine k_run ?_; (first | refine r_seq ?_ | refine r_region ?_)))
  all_goals exact r_ret Tryz.func126 _ (res_one rfl rfl) ⟨by rw [← fidx_any p xs 0], rfl⟩
end Go.Proofs.YtonhfccmeammbaaGreatDoor
namespace Go.Proofs.YtonhfccmeammbaaGreatDoor
open Go.Ab
set_option maxHeartbeats 20000000
set_option linter.unusedVariables false
set_option linter.unusedSimpArgs false
attribute [local irreducible] Run Ops Op1 Does Val Tr PureF Eff1 NF Rel

/-- a constraint without parts that is well formed -/
structure LfOK (g : Lf) : Prop where
  op : g.op = 6 ∨ g.op = 7 ∨ g.op = 8 ∨ g.op = 9 ∨ g.op = 10
  h1 : g.op ≠ 9 → g.name = ⟨#[]⟩
  h2 : g.op ≠ 10 → g.mn = 0 ∧ g.mx = 0
  h3 : g.op ≠ 8 → g.args = []
  h4 : g.op = 10 → g.b = ⟨#[]⟩
  hl : g.args.length ≤ 1000000

theorem atoms_s (g : Lf) (h : LfOK g) : PureF Tryz.prog 59 [g.d, .fn (.func 60) [] []] (B true) := by
  refine pure_of fun H => ?_
  refine spec_of Tryz.func59 (by kernel_rfl) rfl (by simp) ?_
  dsimp only [Tryz.f59]
  repeat' (first | (refine k_op1 ?_; (first | refine o_sv rfl (by decide) ?_ | (refine k_load ?_; (first | refine o_val (v_loada rfl rfl rfl) rfl rfl (by decide) ?_ | refine o_val (v_load rfl rfl rfl rfl) rfl rfl (by decide) ?_)) | (refine k_field ?_; (refine o_val (v_field rfl rfl) rfl rfl (by decide) ?_)) | (refine k_call ?_; (first | refine o_pure (first := []) (cap := []) (ps := [g.d]) (atom_s g h.op h.h1 h.h2 h.h3 h.h4 h.hl) rfl rfl (by decide) ?_ | refine o_fn (conNil_s _) rfl (by decide) ?_)) | (refine k_box ?_; (refine o_does (d_box rfl rfl rfl rfl rfl (by decide)) ?_)) | refine o_mkfn rfl rfl (by decide) ?_)) | (refine k_ops ?_; (first | refine o_go (by first | exact .inl rfl | exact .inr ⟨_, _, _, rfl, rfl, rfl⟩) ?_ | refine o_nil ?_)) | (refine k_run ?_; (first | refine r_seq ?_ | refine r_region ?_)))
  all_goals first
    | exact r_ret Tryz.func59 _ (res_one rfl rfl) ⟨rfl, rfl⟩
    | (exfalso; simp_all; done)
theorem sound_s (g : Lf) (h : LfOK g) : PureF Tryz.prog 29 [g.d] (B true) := by
  have hop : g.op ≠ 0 := by have := h.op; omega
  refine pure_of fun H => ?_
  refine spec_of Tryz.func29 (by kernel_rfl) rfl (by simp) ?_
  dsimp only [Tryz.f29]
  repeat' (first | (refine k_op1 ?_; (first | refine o_sv rfl (by decide) ?_ | (refine k_load ?_; (refine o_val (v_loada rfl rfl rfl) rfl rfl (by decide) ?_)) | (refine k_call ?_; (first | refine o_fn (none_s g hop) rfl (by decide) ?_ | refine o_fn (measure_s g) rfl (by decide) ?_ | refine o_fn (atoms_s g h) rfl (by decide) ?_)) | (refine k_box ?_; (refine o_does (d_box_d rfl rfl (by decide)) ?_)))) | (refine k_ops ?_; (first | refine o_go (by first | exact .inl rfl | exact .inr ⟨_, _, _, rfl, rfl, rfl⟩) ?_ | refine o_nil ?_)) | (refine k_run ?_; (first | refine r_seq ?_ | refine r_region ?_ | refine r_false rfl ?_ | refine r_skip ?_)))
  all_goals first
    | exact r_ret Tryz.func29 _ (res_one rfl rfl) ⟨rfl, rfl⟩
    | (exfalso; simp_all; done)
theorem known_leaf (c : Corpus) (g : Lf) (h : LfOK g) : PureF Tryz.prog 30 [c.d, g.d] (B true) := by
  have hop : g.op ≠ 2 ∧ g.op ≠ 3 := by have := h.op; omega
  refine pure_of fun H => ?_
  refine spec_of Tryz.func30 (by kernel_rfl) rfl (by simp) ?_
  dsimp only [Tryz.f30]
  repeat' (first | (refine k_op1 ?_; (first | refine o_sv rfl (by decide) ?_ | (refine k_load ?_; (refine o_val (v_load rfl rfl rfl rfl) rfl rfl (by decide) ?_)) | (refine k_field ?_; (refine o_val (v_field rfl rfl) rfl rfl (by decide) ?_)) | (refine k_call ?_; (refine o_fn (conNil_s _) rfl (by decide) ?_)) | (refine k_box ?_; (refine o_does (d_box_d rfl rfl (by decide)) ?_)) | refine o_mkfn rfl rfl (by decide) ?_)) | (refine k_ops ?_; (first | refine o_go (by first | exact .inl rfl | exact .inr ⟨_, _, _, rfl, rfl, rfl⟩) ?_ | refine o_nil ?_)) | (refine k_run ?_; (first | refine r_seq ?_ | refine r_region ?_ | refine r_skip ?_ | refine r_block ?_ | refine r_inBlock ?_ | refine r_if rfl (fun _ => ?_) (fun _ => ?_))))
  all_goals first
    | (exfalso; omega)
    | exact r_ret Tryz.func30 _ (res_one rfl rfl) ⟨rfl, rfl⟩
    | (exfalso; simp_all; done)

def outB (c : Corpus) (t : Int) : Bool := decide (t < -1) || decide ((c.tokens.length : Int) ≤ t)
theorem fits1_s (c : Corpus) (t : Int) (k sl : Nat) (hc : c.tokens.length ≤ 1000000) : Eff1 Tryz.prog 66 [.d (Dint t), .ptr (k, sl) 0] [((k, sl), .box (c.cs.map .d))] [] (B (outB c t)) := by
  refine eff_of fun H hH => ?_
  have hH0 := hH ((k, sl), .box (c.cs.map .d)) (by simp)
  refine spec_of Tryz.func66 (by kernel_rfl) rfl (by simp) ?_
  dsimp only [Tryz.f66]
  repeat' (first | (refine k_op1 ?_; (first | refine o_sv rfl (by decide) ?_ | (refine k_load ?_; (refine o_val (v_load (b := .box (c.cs.map .d)) rfl rfl rfl rfl) rfl (bk1 hH0) (by decide) ?_)) | (refine k_field ?_; (refine o_val (v_field rfl rfl) rfl rfl (by decide) ?_)) | (refine k_blt ?_; (refine o_val (v_lenm rfl) rfl rfl (by decide) ?_)))) | (refine k_ops ?_; (first | refine o_go (by first | exact .inl rfl | exact .inr ⟨_, _, _, rfl, rfl, rfl⟩) ?_ | refine o_nil ?_ | refine o_no rfl rfl (by decide) ?_ | refine o_casep rfl rfl (fun _ => ?_) (fun _ => ?_))) | (refine k_run ?_; (first | refine r_seq ?_ | refine r_region ?_)))
  all_goals first
    | (refine r_ret Tryz.func66 _ (res_one rfl rfl) ⟨?_, rfl⟩; unfold outB; simp_all; done)
    | (refine r_ret Tryz.func66 _ (res_one rfl rfl) ⟨?_, rfl⟩; rw [show outB c t = decide ((c.tokens.length : Int) ≤ t) from by unfold outB; rw [decide_eq_false (p := t < -1) (by assumption), Bool.false_or]])
/-- a match -/
abbrev Dmat (b e : Int) (ls : List Int) : PV := .d (.agg [Dint b, Dint e, ints ls])
theorem fits_s (c : Corpus) (labs : List Str) (b e : Int) (ls : List Int) (hc : c.tokens.length ≤ 1000000) (hl : ls.length ≤ 1000000) (hn : labs.length ≤ 1000000) (hll : ls.length = labs.length) : PureF Tryz.prog 31 [c.d, .d (strs labs), Dmat b e ls] (B (!ls.any (outB c))) := by
  refine pure_of fun H => ?_
  refine spec_of Tryz.func31 (by kernel_rfl) rfl (by simp) ?_
  dsimp only [Tryz.f31]
  repeat' (first | (refine k_op1 ?_; (first | refine o_sv rfl (by decide) ?_ | (refine k_load ?_; (refine o_val (v_load rfl rfl rfl rfl) rfl rfl (by decide) ?_)) | (refine k_field ?_; (refine o_val (v_field rfl rfl) rfl rfl (by decide) ?_)) | (refine k_blt ?_; (refine o_val (v_lenm rfl) rfl rfl (by decide) ?_)) | (refine k_call ?_; (refine o_effk (con_int (kk := 0) (outB c) ls hl (fun k x _ => fits1_s c x k 3 hc)) rfl rfl (by decide) ?_)) | (refine k_box ?_; (refine o_does (d_box_d rfl rfl (by decide)) ?_)) | refine o_mkfn rfl rfl (by decide) ?_)) | (refine k_ops ?_; (first | refine o_go (by first | exact .inl rfl | exact .inr ⟨_, _, _, rfl, rfl, rfl⟩) ?_ | refine o_nil ?_ | refine o_no rfl rfl (by decide) ?_ | refine o_casep rfl rfl (fun _ => ?_) (fun _ => ?_))) | (refine k_run ?_; (first | refine r_seq ?_ | refine r_region ?_)))
  all_goals first
    | (exfalso; omega)
    | exact r_ret Tryz.func31 _ (res_one rfl rfl) ⟨rfl, rfl⟩
theorem sindex_s (l : List Str) (x : Str) (hl : l.length ≤ 1000000) : PureF Tryz.prog 93 [.d (strs l), S x] (I .i64 (fidx (fun y => decide (x = y)) l 0)) := by
  refine pure_of fun H => ?_
  refine spec_of Tryz.func93 (by kernel_rfl) rfl (by simp) ?_
  dsimp only [Tryz.f93]
  repeat' (first | (refine k_op1 ?_; (first | refine o_sv rfl (by decide) ?_ | (refine k_blt ?_; (refine o_val (v_lenm rfl) rfl rfl (by decide) ?_)))) | (refine k_ops ?_; (first | refine o_go (by first | exact .inl rfl | exact .inr ⟨_, _, _, rfl, rfl, rfl⟩) ?_ | refine o_nil ?_)) | (refine k_run ?_; (first | refine r_seq ?_ | refine r_region ?_ | refine r_block ?_)))
  refine r_loop ?_
  refine r_less (r_inv (fun q : Nat => ⟨19, [(0, .d (strs l)), (1, S x), (7, I .i64 l.length), (8, I .i64 (q : Nat))], [], H⟩) (fun q => q ≤ l.length ∧ fidx (fun y => decide (x = y)) (l.drop q) q = fidx (fun y => decide (x = y)) l 0) (fun q => l.length - q) ?_ 0 ⟨Nat.zero_le _, rfl⟩) rfl rfl
  intro k ⟨hk, hi⟩ ih
  by_cases hlt : k < l.length
  · obtain ⟨y, hy⟩ : ∃ x, l[k]? = some x := ⟨_, List.getElem?_eq_getElem hlt⟩
    rw [drop_cons' hy, fidx] at hi
    repeat' (first | (refine k_op1 ?_; (first | refine o_sv rfl (by decide) ?_ | (refine k_load ?_; (refine o_val (v_loade rfl rfl rfl) rfl rfl (by decide) ?_)) | (refine k_index ?_; (refine o_val (v_index rfl (by omega) (idx hy) rfl) rfl rfl (by decide) ?_)) | (refine k_bin ?_; (refine o_val (v_add (wi64 (by omega) (by omega))) rfl rfl (by decide) ?_)))) | (refine k_ops ?_; (first | refine o_go (by first | exact .inl rfl | exact .inr ⟨_, _, _, rfl, rfl, rfl⟩) ?_ | refine o_nil ?_)) | (refine k_run ?_; (first | refine r_seq ?_ | refine r_region ?_ | refine r_skip ?_ | refine r_block ?_ | refine r_inBlock ?_ | refine r_if rfl (fun _ => ?_) (fun _ => ?_) | refine r_exit rfl ?_)))
    all_goals try (exfalso; omega)
    all_goals first
      | (refine r_ret Tryz.func93 _ (res_one rfl rfl) ⟨?_, rfl⟩; rw [← hi, if_pos (by simp_all)])
      | exact r_less (ih (k + 1) ⟨by omega, by rw [← hi, if_neg (by simp_all)]⟩ (by omega)) rfl rfl
  · obtain rfl : k = l.length := by omega
    rw [List.drop_length, fidx] at hi
    repeat' (first | (refine k_op1 ?_; (refine o_sv rfl (by decide) ?_)) | (refine k_ops ?_; (first | refine o_go (by first | exact .inl rfl | exact .inr ⟨_, _, _, rfl, rfl, rfl⟩) ?_ | refine o_nil ?_)) | (refine k_run ?_; (first | refine r_seq ?_ | refine r_region ?_ | refine r_skip ?_ | refine r_block ?_ | refine r_if rfl (fun _ => ?_) (fun _ => ?_) | refine r_exit rfl ?_)))
    all_goals try (exfalso; omega)
    all_goals exact r_ret Tryz.func93 _ (res_one rfl rfl) ⟨by rw [← hi], rfl⟩
def labXY : List Str := [⟨#[120]⟩, ⟨#[121]⟩]
theorem tokX_s (b e i j : Int) : PureF Tryz.prog 69 [.d (strs labXY), Dmat b e [i, j], S ⟨#[120]⟩] (I .i64 i) := by
  have hx : PureF Tryz.prog 93 [.d (strs labXY), S ⟨#[120]⟩] (I .i64 0) := sindex_s labXY ⟨#[120]⟩ (by decide)
  have hv : ([i, j] : List Int)[(0 : Int).toNat]? = some i := rfl
  refine pure_of fun H => ?_
  refine spec_of Tryz.func69 (by kernel_rfl) rfl (by simp) ?_
  dsimp only [Tryz.f69]
  repeat' (first | (refine k_op1 ?_; (first | refine o_sv rfl (by decide) ?_ | (refine k_load ?_; (first | refine o_val (v_load rfl rfl rfl rfl) rfl rfl (by decide) ?_ | refine o_val (v_loade rfl rfl rfl) rfl rfl (by decide) ?_)) | (refine k_field ?_; (refine o_val (v_field rfl rfl) rfl rfl (by decide) ?_)) | (refine k_index ?_; (refine o_val (v_index rfl (by omega) (idxi hv) rfl) rfl rfl (by decide) ?_)) | (refine k_call ?_; (refine o_fn hx rfl (by decide) ?_)) | (refine k_box ?_; (refine o_does (d_box_d rfl rfl (by decide)) ?_)))) | (refine k_ops ?_; (first | refine o_go (by first | exact .inl rfl | exact .inr ⟨_, _, _, rfl, rfl, rfl⟩) ?_ | refine o_nil ?_)) | (refine k_run ?_; (first | refine r_seq ?_ | refine r_region ?_ | refine r_true rfl ?_)))
  all_goals first
    | exact r_ret Tryz.func69 _ (res_one rfl rfl) ⟨rfl, rfl⟩
    | (exfalso; omega)
theorem tokY_s (b e i j : Int) : PureF Tryz.prog 69 [.d (strs labXY), Dmat b e [i, j], S ⟨#[121]⟩] (I .i64 j) := by
  have hx : PureF Tryz.prog 93 [.d (strs labXY), S ⟨#[121]⟩] (I .i64 1) := sindex_s labXY ⟨#[121]⟩ (by decide)
  have hv : ([i, j] : List Int)[(1 : Int).toNat]? = some j := rfl
  refine pure_of fun H => ?_
  refine spec_of Tryz.func69 (by kernel_rfl) rfl (by simp) ?_
  dsimp only [Tryz.f69]
  repeat' (first | (refine k_op1 ?_; (first | refine o_sv rfl (by decide) ?_ | (refine k_load ?_; (first | refine o_val (v_load rfl rfl rfl rfl) rfl rfl (by decide) ?_ | refine o_val (v_loade rfl rfl rfl) rfl rfl (by decide) ?_)) | (refine k_field ?_; (refine o_val (v_field rfl rfl) rfl rfl (by decide) ?_)) | (refine k_index ?_; (refine o_val (v_index rfl (by omega) (idxi hv) rfl) rfl rfl (by decide) ?_)) | (refine k_call ?_; (refine o_fn hx rfl (by decide) ?_)) | (refine k_box ?_; (refine o_does (d_box_d rfl rfl (by decide)) ?_)))) | (refine k_ops ?_; (first | refine o_go (by first | exact .inl rfl | exact .inr ⟨_, _, _, rfl, rfl, rfl⟩) ?_ | refine o_nil ?_)) | (refine k_run ?_; (first | refine r_seq ?_ | refine r_region ?_ | refine r_true rfl ?_)))
  all_goals first
    | exact r_ret Tryz.func69 _ (res_one rfl rfl) ⟨rfl, rfl⟩
    | (exfalso; omega)
end Go.Proofs.YtonhfccmeammbaaGreatDoor
namespace Go.Proofs.YtonhfccmeammbaaGreatDoor
open Go.Ab
set_option maxHeartbeats 20000000
set_option linter.unusedVariables false
set_option linter.unusedSimpArgs false
attribute [local irreducible] Run Ops Op1 Does Val Tr PureF Eff1 NF Rel

/-- the relations on the way up -/
def relsG (c : Corpus) (a : Int) (k : Nat) : List Str := ((way c a).take k).map (relAt c)
theorem way_next {c : Corpus} (h : Wf c) {a : Int} (ha : token c a = true) {k : Nat} {t : Int} (ht : (way c a)[k]? = some t) : (up c a).drop k = up c t ∧ token c t = true := by
  have e := way_drop h k a ha t ht
  refine ⟨?_, way_token h ha t (List.mem_of_getElem? ht)⟩
  have := congrArg (List.drop 1) e
  rw [List.drop_drop] at this
  simpa [way] using this
theorem way_get (c : Corpus) (a : Int) (k : Nat) : (way c a)[k + 1]? = (up c a)[k]? := by simp [way]

theorem upg_s {c : Corpus} (hw : Wf c) {a : Int} (ha : token c a = true) : PureF Tryz.prog 72 [c.d, I .i64 a] (.tup [.d (ints (up c a)), .d (strs (relsG c a (up c a).length))]) := by
  have htok := hw.tok
  have hul := up_len c a
  have hlen : (way c a).length = (up c a).length + 1 := rfl
  have hrl := hw.rel
  have hhd := hw.hd
  refine pure_of fun H => ?_
  refine spec_of Tryz.func72 (by kernel_rfl) rfl (by simp) ?_
  dsimp only [Tryz.f72]
  repeat' (first | (refine k_op1 ?_; (first | refine o_nil_row rfl rfl rfl (by decide) ?_ | (refine k_box ?_; (refine o_does (d_box_d rfl rfl (by decide)) ?_)))) | (refine k_ops ?_; (first | refine o_go (by first | exact .inl rfl | exact .inr ⟨_, _, _, rfl, rfl, rfl⟩) ?_ | refine o_nil ?_)) | (refine k_run ?_; (first | refine r_seq ?_ | refine r_region ?_ | refine r_block ?_)))
  refine r_loop ?_
  refine r_less (r_inv (fun q : Nat × Int => ⟨58, [(1, I .i64 q.2), (2, .ptr (0, 2) 0), (6, .ref (0, 6)), (7, .ref (0, 7))], [(7, .row 9 1 ((relsG c a q.1).map fun x => [Dstr x])), (6, .row 3 1 (((up c a).take q.1).map fun x => [Dint x])), (2, .box (c.cs.map .d))], H⟩) (fun q => (way c a)[q.1]? = some q.2) (fun q => (way c a).length - q.1) ?_ (0, a) (by simp [way])) rfl rfl
  intro ⟨k, t⟩ hk ih
  simp only at hk ih ⊢
  have hkl := (List.getElem?_eq_some_iff.1 hk).1
  obtain ⟨hdr, htt⟩ := way_next hw ha hk
  have h0 := (token_iff c t).1 htt
  have htl : ((up c a).take k).length = k := by simp; omega
  have hrk : (relsG c a k).length = k := by simp [relsG]; omega
  have hsmall : (relsG c a k).length < 137438953472 := by omega
  have hsmall2 : ((up c a).take k).length < 137438953472 := by omega
  have hend : up c t = [] → k = (up c a).length := fun e => by
    have := congrArg List.length hdr
    rw [e, List.length_drop] at this; simp at this; omega
  have hfin : up c t = [] → (up c a).take k = up c a ∧ relsG c a k = relsG c a (up c a).length := fun e => by rw [hend e]; simp
  cases hh : c.heads[t.toNat]? with
  | none =>
    have hnh : ¬ t < c.heads.length := by rw [List.getElem?_eq_none_iff] at hh; omega
    have he : up c t = [] := by rw [up_step hw htt, if_pos (by simp [head, hh])]
    obtain ⟨e1, e2⟩ := hfin he
    repeat' (first | (refine k_op1 ?_; (first | refine o_sv rfl (by decide) ?_ | (refine k_load ?_; (refine o_val (v_load rfl rfl rfl rfl) rfl rfl (by decide) ?_)) | (refine k_field ?_; (refine o_val (v_field rfl rfl) rfl rfl (by decide) ?_)) | (refine k_blt ?_; (first | refine o_val (v_lenm rfl) rfl rfl (by decide) ?_ | refine o_val (v_lenrm rfl) rfl rfl (by decide) ?_)))) | (refine k_ops ?_; (first | refine o_go (by first | exact .inl rfl | exact .inr ⟨_, _, _, rfl, rfl, rfl⟩) ?_ | refine o_nil ?_ | refine o_no rfl rfl (by decide) ?_ | refine o_casep rfl rfl (fun _ => ?_) (fun _ => ?_))) | (refine k_run ?_; (first | refine r_seq ?_ | refine r_region ?_ | refine r_false rfl ?_ | refine r_skip ?_ | refine r_block ?_ | refine r_if rfl (fun _ => ?_) (fun _ => ?_) | refine r_exit rfl ?_)))
    all_goals try (exfalso; omega)
    all_goals
      refine r_freeze 6 rfl ?_
      refine r_freeze 7 rfl ?_
      exact r_ret Tryz.func72 _ (res_two rfl rfl rfl) ⟨by rw [e1, e2]; rfl, rfl⟩
  | some x =>
    have hxl := (List.getElem?_eq_some_iff.1 hh).1
    obtain ⟨r, hr⟩ : ∃ r, c.rels[t.toNat]? = some r := ⟨_, List.getElem?_eq_getElem (by omega)⟩
    have hrt : relAt c t = r := by simp [relAt, hr]
    have hbad : (x < 0 ∨ (c.tokens.length : Int) ≤ x) → up c t = [] := fun e => by
      rw [up_step hw htt, if_pos]
      simp only [head, hh]
      rw [if_neg]
      rw [token_iff]; omega
    have hgood : 0 ≤ x → x < c.tokens.length → head c t = x := fun e1 e2 => by
      simp only [head, hh]
      rw [if_pos ((token_iff c x).2 ⟨e1, e2⟩)]
    have hgo : 0 ≤ x → x < c.tokens.length → (way c a)[k + 1]? = some x ∧ (up c a).take (k + 1) = (up c a).take k ++ [x] ∧ relsG c a (k + 1) = relsG c a k ++ [r] := fun e1 e2 => by
      have hu : up c t = x :: up c x := by rw [up_step hw htt, if_neg (by rw [hgood e1 e2]; omega), hgood e1 e2]
      have hx : (up c a)[k]? = some x := by
        have := congrArg (fun l => l[0]?) (hdr.trans hu)
        simpa [List.getElem?_drop] using this
      refine ⟨by rw [way_get]; exact hx, by rw [List.take_add_one, hx]; rfl, ?_⟩
      rw [relsG, List.take_add_one, hk, List.map_append]
      simp [relsG, hrt]
    have hfull : ¬ ((((up c a).take k).length : Nat) : Int) < (c.tokens.length : Int) → up c t = [] := fun e => by
      have : k = (up c a).length := by omega
      rw [← hdr, this]; simp
    repeat' (first | (refine k_op1 ?_; (first | refine o_sv rfl (by decide) ?_ | (refine k_load ?_; (first | refine o_val (v_load rfl rfl rfl rfl) rfl rfl (by decide) ?_ | refine o_val (v_loade rfl rfl rfl) rfl rfl (by decide) ?_)) | (refine k_field ?_; (refine o_val (v_field rfl rfl) rfl rfl (by decide) ?_)) | (refine k_index ?_; (first | refine o_val (v_index rfl h0.1 (idxi hh) rfl) rfl rfl (by decide) ?_ | refine o_val (v_index rfl h0.1 (idxi hr) rfl) rfl rfl (by decide) ?_)) | (refine k_blt ?_; (first | refine o_val (v_lenm rfl) rfl rfl (by decide) ?_ | refine o_val (v_lenrm rfl) rfl rfl (by decide) ?_ | refine o_app1 rfl rfl _ rfl rfl rfl rfl rfl rfl rfl (by decide) (by omega) ?_)) | (refine k_lit ?_; (refine o_lit rfl rfl rfl rfl rfl rfl rfl rfl (by decide) ?_)))) | (refine k_ops ?_; (first | refine o_go (by first | exact .inl rfl | exact .inr ⟨_, _, _, rfl, rfl, rfl⟩) ?_ | refine o_nil ?_ | refine o_no rfl rfl (by decide) ?_ | refine o_casep rfl rfl (fun _ => ?_) (fun _ => ?_))) | (refine k_run ?_; (first | refine r_seq ?_ | refine r_region ?_ | refine r_true rfl ?_ | refine r_false rfl ?_ | refine r_skip ?_ | refine r_block ?_ | refine r_inBlock ?_ | refine r_if rfl (fun _ => ?_) (fun _ => ?_) | refine r_exit rfl ?_)))
    all_goals try (exfalso; omega)
    all_goals first
      | (have he : up c t = [] := by first | exact hbad (by omega) | exact hfull (by assumption)
         obtain ⟨e1, e2⟩ := hfin he
         refine r_freeze 6 rfl ?_
         refine r_freeze 7 rfl ?_
         exact r_ret Tryz.func72 _ (res_two rfl rfl rfl) ⟨by rw [e1, e2]; rfl, rfl⟩)
      | (obtain ⟨e1, e2, e3⟩ := hgo (by omega) (by omega)
         refine r_ren 54 6 rfl rfl ?_
         refine r_ren 50 7 rfl rfl ?_
         refine r_less (ih (k + 1, x) e1 (by simp only; omega)) ?_ ?_
         all_goals first | (rw [e2, e3]; rfl) | rfl)
end Go.Proofs.YtonhfccmeammbaaGreatDoor
namespace Go.Proofs.YtonhfccmeammbaaGreatDoor
open Go.Ab
set_option maxHeartbeats 20000000
set_option linter.unusedVariables false
set_option linter.unusedSimpArgs false
attribute [local irreducible] Run Ops Op1 Does Val Tr PureF Eff1 NF Rel

theorem iindex_s (l : List Int) (x : Int) (hl : l.length ≤ 1000000) : PureF Tryz.prog 110 [.d (ints l), I .i64 x] (I .i64 (fidx (fun y => decide (x = y)) l 0)) := by
  refine pure_of fun H => ?_
  refine spec_of Tryz.func110 (by kernel_rfl) rfl (by simp) ?_
  dsimp only [Tryz.f110]
  repeat' (first | (refine k_op1 ?_; (first | refine o_sv rfl (by decide) ?_ | (refine k_blt ?_; (refine o_val (v_lenm rfl) rfl rfl (by decide) ?_)))) | (refine k_ops ?_; (first | refine o_go (by first | exact .inl rfl | exact .inr ⟨_, _, _, rfl, rfl, rfl⟩) ?_ | refine o_nil ?_)) | (refine k_run ?_; (first | refine r_seq ?_ | refine r_region ?_ | refine r_block ?_)))
  refine r_loop ?_
  refine r_less (r_inv (fun q : Nat => ⟨19, [(0, .d (ints l)), (1, I .i64 x), (7, I .i64 l.length), (8, I .i64 (q : Nat))], [], H⟩) (fun q => q ≤ l.length ∧ fidx (fun y => decide (x = y)) (l.drop q) q = fidx (fun y => decide (x = y)) l 0) (fun q => l.length - q) ?_ 0 ⟨Nat.zero_le _, rfl⟩) rfl rfl
  intro k ⟨hk, hi⟩ ih
  by_cases hlt : k < l.length
  · obtain ⟨y, hy⟩ : ∃ x, l[k]? = some x := ⟨_, List.getElem?_eq_getElem hlt⟩
    rw [drop_cons' hy, fidx] at hi
    repeat' (first | (refine k_op1 ?_; (first | refine o_sv rfl (by decide) ?_ | (refine k_load ?_; (refine o_val (v_loade rfl rfl rfl) rfl rfl (by decide) ?_)) | (refine k_index ?_; (refine o_val (v_index rfl (by omega) (idx hy) rfl) rfl rfl (by decide) ?_)) | (refine k_bin ?_; (refine o_val (v_add (wi64 (by omega) (by omega))) rfl rfl (by decide) ?_)))) | (refine k_ops ?_; (first | refine o_go (by first | exact .inl rfl | exact .inr ⟨_, _, _, rfl, rfl, rfl⟩) ?_ | refine o_nil ?_)) | (refine k_run ?_; (first | refine r_seq ?_ | refine r_region ?_ | refine r_skip ?_ | refine r_block ?_ | refine r_inBlock ?_ | refine r_if rfl (fun _ => ?_) (fun _ => ?_) | refine r_exit rfl ?_)))
    all_goals try (exfalso; omega)
    all_goals first
      | (refine r_ret Tryz.func110 _ (res_one rfl rfl) ⟨?_, rfl⟩; rw [← hi, if_pos (by simp_all)])
      | exact r_less (ih (k + 1) ⟨by omega, by rw [← hi, if_neg (by simp_all)]⟩ (by omega)) rfl rfl
  · obtain rfl : k = l.length := by omega
    rw [List.drop_length, fidx] at hi
    repeat' (first | (refine k_op1 ?_; (refine o_sv rfl (by decide) ?_)) | (refine k_ops ?_; (first | refine o_go (by first | exact .inl rfl | exact .inr ⟨_, _, _, rfl, rfl, rfl⟩) ?_ | refine o_nil ?_)) | (refine k_run ?_; (first | refine r_seq ?_ | refine r_region ?_ | refine r_skip ?_ | refine r_block ?_ | refine r_if rfl (fun _ => ?_) (fun _ => ?_) | refine r_exit rfl ?_)))
    all_goals try (exfalso; omega)
    all_goals exact r_ret Tryz.func110 _ (res_one rfl rfl) ⟨by rw [← hi], rfl⟩
theorem icontains_s (l : List Int) (x : Int) (hl : l.length ≤ 1000000) : PureF Tryz.prog 84 [.d (ints l), I .i64 x] (B (l.any fun y => decide (x = y))) := by
  refine pure_of fun H => ?_
  refine spec_of Tryz.func84 (by kernel_rfl) rfl (by simp) ?_
  dsimp only [Tryz.f84]
  repeat' (first | (refine k_op1 ?_; (first | refine o_sv rfl (by decide) ?_ | (refine k_call ?_; (refine o_fn (iindex_s l x hl) rfl (by decide) ?_)))) | (refine k_ops ?_; (first | refine o_go (by first | exact .inl rfl | exact .inr ⟨_, _, _, rfl, rfl, rfl⟩) ?_ | refine o_nil ?_)) | (refine k_run ?_; (first | refine r_seq ?_ | refine r_region ?_)))
  all_goals exact r_ret Tryz.func84 _ (res_one rfl rfl) ⟨by rw [← fidx_any _ l 0], rfl⟩
theorem sequal_s (a b : List Str) (ha : a.length ≤ 1000000) (hb : b.length ≤ 1000000) : PureF Tryz.prog 128 [.d (strs a), .d (strs b)] (B (decide (a = b))) := by
  refine pure_of fun H => ?_
  refine spec_of Tryz.func128 (by kernel_rfl) rfl (by simp) ?_
  dsimp only [Tryz.f128]
  by_cases hlen : a.length = b.length
  · repeat' (first | (refine k_op1 ?_; (first | refine o_sv rfl (by decide) ?_ | (refine k_blt ?_; (refine o_val (v_lenm rfl) rfl rfl (by decide) ?_)))) | (refine k_ops ?_; (first | refine o_go (by first | exact .inl rfl | exact .inr ⟨_, _, _, rfl, rfl, rfl⟩) ?_ | refine o_nil ?_)) | (refine k_run ?_; (first | refine r_seq ?_ | refine r_region ?_ | refine r_skip ?_ | refine r_block ?_ | refine r_ifn rfl (fun _ => ?_) (fun _ => ?_))))
    · exfalso; omega
    refine r_loop ?_
    refine r_less (r_inv (fun q : Nat => ⟨26, [(0, .d (strs a)), (1, .d (strs b)), (12, I .i64 a.length), (13, I .i64 (q : Nat))], [], H⟩) (fun q => q ≤ a.length ∧ ∀ j < q, a[j]? = b[j]?) (fun q => a.length - q) ?_ 0 ⟨Nat.zero_le _, by simp⟩) rfl rfl
    intro k ⟨hk, hi⟩ ih
    by_cases hlt : k < a.length
    · obtain ⟨x, hx⟩ : ∃ x, a[k]? = some x := ⟨_, List.getElem?_eq_getElem hlt⟩
      obtain ⟨y, hy⟩ : ∃ x, b[k]? = some x := ⟨_, List.getElem?_eq_getElem (by omega)⟩
      repeat' (first | (refine k_op1 ?_; (first | refine o_sv rfl (by decide) ?_ | (refine k_bin ?_; (refine o_val (v_add (wi64 (by omega) (by omega))) rfl rfl (by decide) ?_)))) | (refine k_ops ?_; (first | refine o_go (by first | exact .inl rfl | exact .inr ⟨_, _, _, rfl, rfl, rfl⟩) ?_ | refine o_nil ?_)) | (refine k_run ?_; (first | refine r_seq ?_ | refine r_region ?_ | refine r_skip ?_ | refine r_block ?_ | refine r_tr ?_ | refine r_inBlock ?_ | refine r_if rfl (fun _ => ?_) (fun _ => ?_) | refine r_ifn rfl (fun _ => ?_) (fun _ => ?_) | refine r_exit rfl ?_)) | (refine k_tr ?_; (first | (refine kt_end ?_; refine t_end mix (by kernel_rfl) ?_) | refine t_sv rfl (by first | exact rfl | exact ⟨_, rfl, rfl, rfl⟩) (by decide) ?_ | (refine kt_load ?_; (refine t_val (v_loade rfl rfl rfl) (by first | exact rfl | exact ⟨_, rfl, rfl, rfl⟩) rfl rfl (by decide) ?_)) | (refine kt_index ?_; (first | refine t_val (v_index rfl (by omega) (idx hx) rfl) (by first | exact rfl | exact ⟨_, rfl, rfl, rfl⟩) rfl rfl (by decide) ?_ | refine t_val (v_index rfl (by omega) (idx hy) rfl) (by first | exact rfl | exact ⟨_, rfl, rfl, rfl⟩) rfl rfl (by decide) ?_)))))
      all_goals try (exfalso; omega)
      all_goals first
        | (refine r_ret Tryz.func128 _ (res_one rfl rfl) ⟨?_, rfl⟩
           rw [decide_eq_false]
           intro e; subst e; rw [hx] at hy; simp_all; done)
        | (refine r_less (ih (k + 1) ⟨by omega, fun j hj => ?_⟩ (by omega)) rfl rfl
           by_cases e : j = k
           · subst e; rw [hx, hy]; simp_all
           · exact hi j (by omega))
    · repeat' (first | (refine k_op1 ?_; (refine o_sv rfl (by decide) ?_)) | (refine k_ops ?_; (first | refine o_go (by first | exact .inl rfl | exact .inr ⟨_, _, _, rfl, rfl, rfl⟩) ?_ | refine o_nil ?_)) | (refine k_run ?_; (first | refine r_seq ?_ | refine r_region ?_ | refine r_skip ?_ | refine r_block ?_ | refine r_tr ?_ | refine r_if rfl (fun _ => ?_) (fun _ => ?_) | refine r_exit rfl ?_)) | (refine k_tr ?_; (refine t_sv rfl (by first | exact rfl | exact ⟨_, rfl, rfl, rfl⟩) (by decide) ?_)))
      all_goals try (exfalso; omega)
      all_goals
        refine r_ret Tryz.func128 _ (res_one rfl rfl) ⟨?_, rfl⟩
        rw [decide_eq_true]
        exact list_eq hlen (fun j hj => hi j (by omega))
  · repeat' (first | (refine k_op1 ?_; (first | refine o_sv rfl (by decide) ?_ | (refine k_blt ?_; (refine o_val (v_lenm rfl) rfl rfl (by decide) ?_)))) | (refine k_ops ?_; (first | refine o_go (by first | exact .inl rfl | exact .inr ⟨_, _, _, rfl, rfl, rfl⟩) ?_ | refine o_nil ?_)) | (refine k_run ?_; (first | refine r_seq ?_ | refine r_region ?_ | refine r_skip ?_ | refine r_block ?_ | refine r_ifn rfl (fun _ => ?_) (fun _ => ?_))))
    · refine r_ret Tryz.func128 _ (res_one rfl rfl) ⟨?_, rfl⟩
      rw [decide_eq_false]
      intro e; subst e; exact hlen rfl
    · exfalso; omega

/-- a scene -/
abbrev scD (c : Corpus) (g : Lf) (a b : Int) : PV := .d (.agg (c.cs ++ g.cs ++ [Dint a, Dint b]))
theorem head_sc {c : Corpus} (hw : Wf c) (g : Lf) {a : Int} (b : Int) (ha : token c a = true) : PureF Tryz.prog 100 [scD c g a b] (B (decide ((up c a)[0]? = some b))) := by
  have hul := up_len c a
  have htok := hw.tok
  refine pure_of fun H => ?_
  refine spec_of Tryz.func100 (by kernel_rfl) rfl (by simp) ?_
  dsimp only [Tryz.f100]
  cases hu : up c a with
  | nil =>
    have hs := upg_s hw ha
    rw [hu] at hs
    repeat' (first | (refine k_op1 ?_; (first | refine o_sv rfl (by decide) ?_ | (refine k_load ?_; (first | refine o_val (v_load rfl rfl rfl rfl) rfl rfl (by decide) ?_ | refine o_val (v_loadp rfl rfl rfl rfl) rfl rfl (by decide) ?_)) | (refine k_field ?_; (refine o_val (v_field rfl rfl) rfl rfl (by decide) ?_)) | (refine k_call ?_; (refine o_fn hs rfl (by decide) ?_)) | (refine k_box ?_; (refine o_does (d_box_d rfl rfl (by decide)) ?_)))) | (refine k_ops ?_; (first | refine o_go (by first | exact .inl rfl | exact .inr ⟨_, _, _, rfl, rfl, rfl⟩) ?_ | refine o_nil ?_)) | (refine k_run ?_; (first | refine r_seq ?_ | refine r_region ?_ | refine r_tr ?_)) | (refine k_tr ?_; (first | (refine kt_end ?_; refine t_end mix (by kernel_rfl) ?_) | refine t_pass rfl rfl (by decide) ?_ | refine t_sv rfl (by first | exact rfl | exact ⟨_, rfl, rfl, rfl⟩) (by decide) ?_ | (refine kt_blt ?_; (refine t_val (v_lenm rfl) (by first | exact rfl | exact ⟨_, rfl, rfl, rfl⟩) rfl rfl (by decide) ?_)))))
    all_goals try (exfalso; simp_all; done)
    all_goals exact r_ret Tryz.func100 _ (res_one rfl rfl) ⟨rfl, rfl⟩
  | cons x r =>
    have hs := upg_s hw ha
    rw [hu] at hs hul
    have h0 : (x :: r)[(0 : Int).toNat]? = some x := rfl
    repeat' (first | (refine k_op1 ?_; (first | refine o_sv rfl (by decide) ?_ | (refine k_load ?_; (first | refine o_val (v_load rfl rfl rfl rfl) rfl rfl (by decide) ?_ | refine o_val (v_loadp rfl rfl rfl rfl) rfl rfl (by decide) ?_)) | (refine k_field ?_; (refine o_val (v_field rfl rfl) rfl rfl (by decide) ?_)) | (refine k_call ?_; (refine o_fn hs rfl (by decide) ?_)) | (refine k_box ?_; (refine o_does (d_box_d rfl rfl (by decide)) ?_)))) | (refine k_ops ?_; (first | refine o_go (by first | exact .inl rfl | exact .inr ⟨_, _, _, rfl, rfl, rfl⟩) ?_ | refine o_nil ?_)) | (refine k_run ?_; (first | refine r_seq ?_ | refine r_region ?_ | refine r_tr ?_)) | (refine k_tr ?_; (first | (refine kt_end ?_; refine t_end mix (by kernel_rfl) ?_) | refine t_pass rfl rfl (by decide) ?_ | refine t_sv rfl (by first | exact rfl | exact ⟨_, rfl, rfl, rfl⟩) (by decide) ?_ | (refine kt_load ?_; (first | refine t_val (v_load rfl rfl rfl rfl) (by first | exact rfl | exact ⟨_, rfl, rfl, rfl⟩) rfl rfl (by decide) ?_ | refine t_val (v_loade rfl rfl rfl) (by first | exact rfl | exact ⟨_, rfl, rfl, rfl⟩) rfl rfl (by decide) ?_)) | (refine kt_field ?_; (refine t_val (v_field rfl rfl) (by first | exact rfl | exact ⟨_, rfl, rfl, rfl⟩) rfl rfl (by decide) ?_)) | (refine kt_index ?_; (refine t_val (v_index rfl (by omega) (idxi h0) rfl) (by first | exact rfl | exact ⟨_, rfl, rfl, rfl⟩) rfl rfl (by decide) ?_)) | (refine kt_blt ?_; (refine t_val (v_lenm rfl) (by first | exact rfl | exact ⟨_, rfl, rfl, rfl⟩) rfl rfl (by decide) ?_)) | (refine t_either rfl rfl (fun hg => ?_) (fun hg => ?_) <;> simp only [hg] <;> (try simp only [decide_eq_true_eq, decide_eq_false_iff_not, Bool.not_eq_true', Bool.not_eq_false'] at hg)))))
    all_goals try (exfalso; simp_all; done)

    all_goals exact r_ret Tryz.func100 _ (res_one rfl rfl) ⟨by simp, rfl⟩
theorem anc_sc {c : Corpus} (hw : Wf c) (g : Lf) {a : Int} (b : Int) (ha : token c a = true) : PureF Tryz.prog 101 [scD c g a b] (B ((up c a).any fun y => decide (b = y))) := by
  have hul := up_len c a
  have htok := hw.tok
  refine pure_of fun H => ?_
  refine spec_of Tryz.func101 (by kernel_rfl) rfl (by simp) ?_
  dsimp only [Tryz.f101]
  repeat' (first | (refine k_op1 ?_; (first | refine o_sv rfl (by decide) ?_ | (refine k_load ?_; (first | refine o_val (v_load rfl rfl rfl rfl) rfl rfl (by decide) ?_ | refine o_val (v_loadp rfl rfl rfl rfl) rfl rfl (by decide) ?_)) | (refine k_field ?_; (refine o_val (v_field rfl rfl) rfl rfl (by decide) ?_)) | (refine k_call ?_; (first | refine o_fn (upg_s hw ha) rfl (by decide) ?_ | refine o_fn (icontains_s (up c a) b (by omega)) rfl (by decide) ?_)) | (refine k_box ?_; (refine o_does (d_box_d rfl rfl (by decide)) ?_)))) | (refine k_ops ?_; (first | refine o_go (by first | exact .inl rfl | exact .inr ⟨_, _, _, rfl, rfl, rfl⟩) ?_ | refine o_nil ?_)) | (refine k_run ?_; (first | refine r_seq ?_ | refine r_region ?_)))
  all_goals exact r_ret Tryz.func101 _ (res_one rfl rfl) ⟨rfl, rfl⟩
end Go.Proofs.YtonhfccmeammbaaGreatDoor
namespace Go.Proofs.YtonhfccmeammbaaGreatDoor
open Go.Ab
set_option maxHeartbeats 20000000
set_option linter.unusedVariables false
set_option linter.unusedSimpArgs false
attribute [local irreducible] Run Ops Op1 Does Val Tr PureF Eff1 NF Rel

theorem iindex_r {kk sl : Nat} (l : List Int) (x : Int) (hl : l.length ≤ 1000000) : Eff1 Tryz.prog 110 [.ref (kk, sl), I .i64 x] [((kk, sl), .row 3 1 (l.map fun x => [Dint x]))] [] (I .i64 (fidx (fun y => decide (x = y)) l 0)) := by
  refine eff_of fun H hH => ?_
  have hH0 := hH ((kk, sl), .row 3 1 (l.map fun x => [Dint x])) (by simp)
  refine spec_of Tryz.func110 (by kernel_rfl) rfl (by simp) ?_
  dsimp only [Tryz.f110]
  repeat' (first | (refine k_op1 ?_; (first | refine o_sv rfl (by decide) ?_ | (refine k_blt ?_; (refine o_val (v_lenrm rfl) rfl (bk1 hH0) (by decide) ?_)))) | (refine k_ops ?_; (first | refine o_go (by first | exact .inl rfl | exact .inr ⟨_, _, _, rfl, rfl, rfl⟩) ?_ | refine o_nil ?_)) | (refine k_run ?_; (first | refine r_seq ?_ | refine r_region ?_ | refine r_block ?_)))
  refine r_loop ?_
  refine r_less (r_inv (fun q : Nat => ⟨19, [(0, .ref (kk + 1, sl)), (1, I .i64 x), (7, I .i64 l.length), (8, I .i64 (q : Nat))], [], H⟩) (fun q => q ≤ l.length ∧ fidx (fun y => decide (x = y)) (l.drop q) q = fidx (fun y => decide (x = y)) l 0) (fun q => l.length - q) ?_ 0 ⟨Nat.zero_le _, rfl⟩) rfl rfl
  intro k ⟨hk, hi⟩ ih
  by_cases hlt : k < l.length
  · obtain ⟨y, hy⟩ : ∃ x, l[k]? = some x := ⟨_, List.getElem?_eq_getElem hlt⟩
    rw [drop_cons' hy, fidx] at hi
    repeat' (first | (refine k_op1 ?_; (refine o_sv rfl (by decide) ?_)) | (refine k_ops ?_; (first | refine o_go (by first | exact .inl rfl | exact .inr ⟨_, _, _, rfl, rfl, rfl⟩) ?_ | refine o_nil ?_)) | (refine k_run ?_; (first | refine r_seq ?_ | refine r_region ?_ | refine r_skip ?_ | refine r_block ?_ | refine r_if rfl (fun _ => ?_) (fun _ => ?_) | refine r_exit rfl ?_)))

    refine k_op1 ?_
    refine o_val (v_rindex (kk := 1) (e' := 3) (ys := l.map fun x => [Dint x]) rfl (by omega) (by rw [List.length_map]; omega) rfl) rfl (bk1 hH0) (by decide) ?_
    repeat' (first | (refine k_op1 ?_; (first | refine o_sv rfl (by decide) ?_ | (refine k_load ?_; (refine o_val (v_rloadm hy rfl rfl rfl) rfl (bk1 hH0) (by decide) ?_)) | (refine k_bin ?_; (refine o_val (v_add (wi64 (by omega) (by omega))) rfl rfl (by decide) ?_)))) | (refine k_ops ?_; (first | refine o_go (by first | exact .inl rfl | exact .inr ⟨_, _, _, rfl, rfl, rfl⟩) ?_ | refine o_nil ?_)) | (refine k_run ?_; (first | refine r_seq ?_ | refine r_region ?_ | refine r_skip ?_ | refine r_inBlock ?_ | refine r_if rfl (fun _ => ?_) (fun _ => ?_))))
    all_goals try (exfalso; omega)
    all_goals first
      | (refine r_ret Tryz.func110 _ (res_one rfl rfl) ⟨?_, rfl⟩; rw [← hi, if_pos (by simp_all)])
      | exact r_less (ih (k + 1) ⟨by omega, by rw [← hi, if_neg (by simp_all)]⟩ (by omega)) rfl rfl
  · obtain rfl : k = l.length := by omega
    rw [List.drop_length, fidx] at hi
    repeat' (first | (refine k_op1 ?_; (refine o_sv rfl (by decide) ?_)) | (refine k_ops ?_; (first | refine o_go (by first | exact .inl rfl | exact .inr ⟨_, _, _, rfl, rfl, rfl⟩) ?_ | refine o_nil ?_)) | (refine k_run ?_; (first | refine r_seq ?_ | refine r_region ?_ | refine r_skip ?_ | refine r_block ?_ | refine r_if rfl (fun _ => ?_) (fun _ => ?_) | refine r_exit rfl ?_)))
    all_goals try (exfalso; omega)
    all_goals exact r_ret Tryz.func110 _ (res_one rfl rfl) ⟨by rw [← hi], rfl⟩

def pathG (c : Corpus) (g : Lf) (a b : Int) : Bool :=
  decide (0 ≤ fidx (fun y => decide (b = y)) (way c a) 0) && decide ((relsG c a (up c a).length).take (fidx (fun y => decide (b = y)) (way c a) 0).toNat = g.args)
theorem relsG_len (c : Corpus) (a : Int) : (relsG c a (up c a).length).length = (up c a).length := by simp [relsG, way]
theorem path_sc {c : Corpus} (hw : Wf c) (g : Lf) (hg : g.args.length ≤ 1000000) {a : Int} (b : Int) (ha : token c a = true) : PureF Tryz.prog 102 [scD c g a b] (B (pathG c g a b)) := by
  have hul := up_len c a
  have htok := hw.tok
  have hrl := relsG_len c a
  have hwl : (way c a).length = (up c a).length + 1 := rfl
  have hr := fidx_range (fun y => decide (b = y)) (way c a) 0
  have hx : ∀ k, Eff1 Tryz.prog 110 [.ref (0, k), I .i64 b] [((0, k), .row 3 1 ((way c a).map fun x => [Dint x]))] [] (I .i64 (fidx (fun y => decide (b = y)) (way c a) 0)) := fun k => iindex_r (way c a) b (by omega)
  unfold pathG
  generalize fidx (fun y => decide (b = y)) (way c a) 0 = n at hr hx ⊢
  have hq := sequal_s ((relsG c a (up c a).length).take n.toNat) g.args (by rw [List.length_take]; omega) hg
  refine pure_of fun H => ?_
  refine spec_of Tryz.func102 (by kernel_rfl) rfl (by simp) ?_
  dsimp only [Tryz.f102]
  repeat' (first | (refine k_op1 ?_; (first | refine o_sv rfl (by decide) ?_ | (refine k_load ?_; (first | refine o_val (v_load rfl rfl rfl rfl) rfl rfl (by decide) ?_ | refine o_val (v_loadp rfl rfl rfl rfl) rfl rfl (by decide) ?_)) | (refine k_field ?_; (refine o_val (v_field rfl rfl) rfl rfl (by decide) ?_)) | (refine k_call ?_; (refine o_fn (upg_s hw ha) rfl (by decide) ?_)) | (refine k_box ?_; (refine o_does (d_box_d rfl rfl (by decide)) ?_)))) | (refine k_ops ?_; (first | refine o_go (by first | exact .inl rfl | exact .inr ⟨_, _, _, rfl, rfl, rfl⟩) ?_ | refine o_nil ?_)) | (refine k_run ?_; (first | refine r_seq ?_ | refine r_region ?_ | refine r_tr ?_)) | (refine k_tr ?_; (first | (refine kt_end ?_; refine t_end mix (by kernel_rfl) ?_) | refine t_pass rfl rfl (by decide) ?_ | refine t_sv rfl (by first | exact rfl | exact ⟨_, rfl, rfl, rfl⟩) (by decide) ?_ | (refine kt_load ?_; (refine t_val (v_load rfl rfl rfl rfl) (by first | exact rfl | exact ⟨_, rfl, rfl, rfl⟩) rfl rfl (by decide) ?_)) | (refine kt_field ?_; (refine t_val (v_field rfl rfl) (by first | exact rfl | exact ⟨_, rfl, rfl, rfl⟩) rfl rfl (by decide) ?_)) | (refine kt_slice ?_; (refine t_val (v_slicetm rfl (by omega) (by omega) (fun _ => rfl)) (by first | exact rfl | exact ⟨_, rfl, rfl, rfl⟩) rfl rfl (by decide) ?_)) | (refine kt_blt ?_; (refine t_apps (q := [a]) (r := up c a) (by first | exact rfl | exact ⟨_, rfl, rfl, rfl⟩) rfl rfl rfl rfl rfl (fun _ => rfl) rfl rfl (by decide) (by simp; omega) ?_)) | (refine kt_call ?_; (first | refine t_fn hq (by first | exact rfl | exact ⟨_, rfl, rfl, rfl⟩) rfl (by decide) ?_ | refine t_fnv (first := []) (cap := []) (ps := [.ref (0, 18), I .i64 b]) (bs := [((0, 18), .row 3 1 ((way c a).map fun x => [Dint x]))]) (hx 18) (by first | exact rfl | exact ⟨_, rfl, rfl, rfl⟩) rfl rfl (bk1 rfl) (by decide) ?_)) | (refine kt_lit ?_; (refine t_lito (ys := [a].map fun x => [Dint x]) (by first | exact rfl | exact ⟨_, rfl, rfl, rfl⟩) rfl rfl rfl rfl rfl rfl rfl rfl rfl (by decide) ?_)) | (refine t_either rfl rfl (fun hg => ?_) (fun hg => ?_) <;> simp only [hg] <;> (try simp only [decide_eq_true_eq, decide_eq_false_iff_not, Bool.not_eq_true', Bool.not_eq_false'] at hg)))))
  all_goals exact r_ret Tryz.func102 _ (res_one rfl rfl) ⟨by first | rfl | (rw [decide_eq_true (p := 0 ≤ n) (by assumption)]; rfl) | (rw [decide_eq_false (p := 0 ≤ n) (by assumption)]; rfl), rfl⟩
end Go.Proofs.YtonhfccmeammbaaGreatDoor
namespace Go.Proofs.YtonhfccmeammbaaGreatDoor
open Go.Ab
set_option maxHeartbeats 20000000
set_option linter.unusedVariables false
set_option linter.unusedSimpArgs false
attribute [local irreducible] Run Ops Op1 Does Val Tr PureF Eff1 NF Rel

abbrev scL (c : Corpus) (g : Lf) (a b : Int) : List D := c.cs ++ g.cs ++ [Dint a, Dint b]
def nodeP (g : Lf) (a b : Int) (n : Node) : Bool := decide (n.label = g.name) && decide (n.b ≤ min a b) && decide (max a b < n.e)
theorem node1_s (c : Corpus) (g : Lf) (a b : Int) (n : Node) (k sl : Nat) : Eff1 Tryz.prog 130 [.d (.agg n.cs), .ptr (k, sl) 0] [((k, sl), .box ((scL c g a b).map .d))] [] (B (nodeP g a b n)) := by
  refine eff_of fun H hH => ?_
  have hH0 := hH ((k, sl), .box ((scL c g a b).map .d)) (by simp)
  refine spec_of Tryz.func130 (by kernel_rfl) rfl (by simp) ?_
  dsimp only [Tryz.f130]
  repeat' (first | (refine k_op1 ?_; (first | refine o_sv rfl (by decide) ?_ | (refine k_load ?_; (first | refine o_val (v_load (b := .box ((scL c g a b).map .d)) rfl rfl rfl rfl) rfl (bk1 hH0) (by decide) ?_ | refine o_val (v_load rfl rfl rfl rfl) rfl rfl (by decide) ?_)) | (refine k_field ?_; (refine o_val (v_field rfl rfl) rfl rfl (by decide) ?_)) | (refine k_blt ?_; (first | refine o_val v_min rfl rfl (by decide) ?_ | refine o_val v_max rfl rfl (by decide) ?_)) | (refine k_box ?_; (refine o_does (d_box_d rfl rfl (by decide)) ?_)))) | (refine k_ops ?_; (first | refine o_go (by first | exact .inl rfl | exact .inr ⟨_, _, _, rfl, rfl, rfl⟩) ?_ | refine o_nil ?_ | refine o_no rfl rfl (by decide) ?_ | refine o_casep rfl rfl (fun _ => ?_) (fun _ => ?_))) | (refine k_run ?_; (first | refine r_seq ?_ | refine r_region ?_)))
  all_goals exact r_ret Tryz.func130 _ (res_one rfl rfl) ⟨by unfold nodeP; first | (rw [decide_eq_true (p := n.label = g.name) (by assumption), decide_eq_true (p := n.b ≤ min a b) (by assumption)]; rfl) | (rw [decide_eq_true (p := n.label = g.name) (by assumption), decide_eq_false (p := n.b ≤ min a b) (by assumption)]; rfl) | (rw [decide_eq_false (p := n.label = g.name) (by assumption)]; rfl), rfl⟩
theorem node_sc (c : Corpus) (g : Lf) (a b : Int) (hc : c.nodes.length ≤ 1000000) : PureF Tryz.prog 103 [scD c g a b] (B (c.nodes.any (nodeP g a b))) := by
  refine pure_of fun H => ?_
  refine spec_of Tryz.func103 (by kernel_rfl) rfl (by simp) ?_
  dsimp only [Tryz.f103]
  repeat' (first | (refine k_op1 ?_; (first | refine o_sv rfl (by decide) ?_ | (refine k_load ?_; (refine o_val (v_load rfl rfl rfl rfl) rfl rfl (by decide) ?_)) | (refine k_field ?_; (refine o_val (v_field rfl rfl) rfl rfl (by decide) ?_)) | (refine k_call ?_; (refine o_effk (con_node (kk := 0) (nodeP g a b) c.nodes hc (fun k x _ => node1_s c g a b x k 1)) rfl rfl (by decide) ?_)) | (refine k_box ?_; (refine o_does (d_box_d rfl rfl (by decide)) ?_)) | refine o_mkfn rfl rfl (by decide) ?_)) | (refine k_ops ?_; (first | refine o_go (by first | exact .inl rfl | exact .inr ⟨_, _, _, rfl, rfl, rfl⟩) ?_ | refine o_nil ?_)) | (refine k_run ?_; (first | refine r_seq ?_ | refine r_region ?_)))
  all_goals exact r_ret Tryz.func103 _ (res_one rfl rfl) ⟨rfl, rfl⟩

def relTbl : List (List D) := [[.lit .nilFunc], [.lit .nilFunc], [.lit .nilFunc], [fnD 97], [fnD 98], [fnD 99], [fnD 100], [fnD 101], [fnD 102], [fnD 103]]
def relP (c : Corpus) (g : Lf) (a b : Int) : Bool :=
  if g.op = 7 then (up c a).any fun y => decide (b = y) else if g.op = 8 then pathG c g a b else if g.op = 9 then c.nodes.any (nodeP g a b) else decide ((up c a)[0]? = some b)
theorem related_s {c : Corpus} (hw : Wf c) (g : Lf) (hg : g.args.length ≤ 1000000) {a : Int} (b : Int) (ha : token c a = true) (hc : c.nodes.length ≤ 1000000) (ho : g.op = 6 ∨ g.op = 7 ∨ g.op = 8 ∨ g.op = 9) : PureF Tryz.prog 73 [scD c g a b] (B (relP c g a b)) := by
  have h6 : g.op = 6 → PureF Tryz.prog 100 [scD c g a b] (B (relP c g a b)) := fun e => by rw [relP, e]; exact head_sc hw g b ha
  have h7 : g.op = 7 → PureF Tryz.prog 101 [scD c g a b] (B (relP c g a b)) := fun e => by rw [relP, e]; exact anc_sc hw g b ha
  have h8 : g.op = 8 → PureF Tryz.prog 102 [scD c g a b] (B (relP c g a b)) := fun e => by rw [relP, e]; exact path_sc hw g hg b ha
  have h9 : g.op = 9 → PureF Tryz.prog 103 [scD c g a b] (B (relP c g a b)) := fun e => by rw [relP, e]; exact node_sc c g a b hc
  refine pure_of fun H => ?_
  refine spec_of Tryz.func73 (by kernel_rfl) rfl (by simp) ?_
  dsimp only [Tryz.f73]
  rcases ho with h | h | h | h
  · have hv : relTbl[g.op.toNat]? = some [fnD 100] := by rw [h]; rfl
    repeat' (first | (refine k_op1 ?_; (first | refine o_litf (ys := relTbl) rfl rfl rfl rfl rfl rfl rfl rfl (by decide) ?_ | refine o_sv rfl (by decide) ?_ | (refine k_box ?_; (refine o_does (d_box_d rfl rfl (by decide)) ?_)))) | (refine k_ops ?_; (first | refine o_go (by first | exact .inl rfl | exact .inr ⟨_, _, _, rfl, rfl, rfl⟩) ?_ | refine o_nil ?_)) | (refine k_run ?_; (first | refine r_seq ?_ | refine r_region ?_ | refine r_tr ?_)) | (refine k_tr ?_; (first | (refine kt_end ?_; refine t_end mix (by kernel_rfl) ?_) | refine t_sv rfl (by first | exact rfl | exact ⟨_, rfl, rfl, rfl⟩) (by decide) ?_ | (refine kt_load ?_; (first | refine t_val (v_loada rfl rfl rfl) (by first | exact rfl | exact ⟨_, rfl, rfl, rfl⟩) rfl rfl (by decide) ?_ | refine t_val (v_load rfl rfl rfl rfl) (by first | exact rfl | exact ⟨_, rfl, rfl, rfl⟩) rfl rfl (by decide) ?_ | refine t_val (v_loade rfl rfl rfl) (by first | exact rfl | exact ⟨_, rfl, rfl, rfl⟩) rfl rfl (by decide) ?_)) | (refine kt_field ?_; (refine t_val (v_field rfl rfl) (by first | exact rfl | exact ⟨_, rfl, rfl, rfl⟩) rfl rfl (by decide) ?_)) | (refine kt_index ?_; (refine t_val (v_index rfl (by omega) hv rfl) (by first | exact rfl | exact ⟨_, rfl, rfl, rfl⟩) rfl rfl (by decide) ?_)) | (refine kt_call ?_; (refine t_fnl (by first | exact rfl | exact ⟨_, rfl, rfl, rfl⟩) rfl (h6 h) rfl (by decide) ?_)))))
    all_goals exact r_ret Tryz.func73 _ (res_one rfl rfl) ⟨rfl, rfl⟩
  · have hv : relTbl[g.op.toNat]? = some [fnD 101] := by rw [h]; rfl
    repeat' (first | (refine k_op1 ?_; (first | refine o_litf (ys := relTbl) rfl rfl rfl rfl rfl rfl rfl rfl (by decide) ?_ | refine o_sv rfl (by decide) ?_ | (refine k_box ?_; (refine o_does (d_box_d rfl rfl (by decide)) ?_)))) | (refine k_ops ?_; (first | refine o_go (by first | exact .inl rfl | exact .inr ⟨_, _, _, rfl, rfl, rfl⟩) ?_ | refine o_nil ?_)) | (refine k_run ?_; (first | refine r_seq ?_ | refine r_region ?_ | refine r_tr ?_)) | (refine k_tr ?_; (first | (refine kt_end ?_; refine t_end mix (by kernel_rfl) ?_) | refine t_sv rfl (by first | exact rfl | exact ⟨_, rfl, rfl, rfl⟩) (by decide) ?_ | (refine kt_load ?_; (first | refine t_val (v_loada rfl rfl rfl) (by first | exact rfl | exact ⟨_, rfl, rfl, rfl⟩) rfl rfl (by decide) ?_ | refine t_val (v_load rfl rfl rfl rfl) (by first | exact rfl | exact ⟨_, rfl, rfl, rfl⟩) rfl rfl (by decide) ?_ | refine t_val (v_loade rfl rfl rfl) (by first | exact rfl | exact ⟨_, rfl, rfl, rfl⟩) rfl rfl (by decide) ?_)) | (refine kt_field ?_; (refine t_val (v_field rfl rfl) (by first | exact rfl | exact ⟨_, rfl, rfl, rfl⟩) rfl rfl (by decide) ?_)) | (refine kt_index ?_; (refine t_val (v_index rfl (by omega) hv rfl) (by first | exact rfl | exact ⟨_, rfl, rfl, rfl⟩) rfl rfl (by decide) ?_)) | (refine kt_call ?_; (refine t_fnl (by first | exact rfl | exact ⟨_, rfl, rfl, rfl⟩) rfl (h7 h) rfl (by decide) ?_)))))
    all_goals exact r_ret Tryz.func73 _ (res_one rfl rfl) ⟨rfl, rfl⟩
  · have hv : relTbl[g.op.toNat]? = some [fnD 102] := by rw [h]; rfl
    repeat' (first | (refine k_op1 ?_; (first | refine o_litf (ys := relTbl) rfl rfl rfl rfl rfl rfl rfl rfl (by decide) ?_ | refine o_sv rfl (by decide) ?_ | (refine k_box ?_; (refine o_does (d_box_d rfl rfl (by decide)) ?_)))) | (refine k_ops ?_; (first | refine o_go (by first | exact .inl rfl | exact .inr ⟨_, _, _, rfl, rfl, rfl⟩) ?_ | refine o_nil ?_)) | (refine k_run ?_; (first | refine r_seq ?_ | refine r_region ?_ | refine r_tr ?_)) | (refine k_tr ?_; (first | (refine kt_end ?_; refine t_end mix (by kernel_rfl) ?_) | refine t_sv rfl (by first | exact rfl | exact ⟨_, rfl, rfl, rfl⟩) (by decide) ?_ | (refine kt_load ?_; (first | refine t_val (v_loada rfl rfl rfl) (by first | exact rfl | exact ⟨_, rfl, rfl, rfl⟩) rfl rfl (by decide) ?_ | refine t_val (v_load rfl rfl rfl rfl) (by first | exact rfl | exact ⟨_, rfl, rfl, rfl⟩) rfl rfl (by decide) ?_ | refine t_val (v_loade rfl rfl rfl) (by first | exact rfl | exact ⟨_, rfl, rfl, rfl⟩) rfl rfl (by decide) ?_)) | (refine kt_field ?_; (refine t_val (v_field rfl rfl) (by first | exact rfl | exact ⟨_, rfl, rfl, rfl⟩) rfl rfl (by decide) ?_)) | (refine kt_index ?_; (refine t_val (v_index rfl (by omega) hv rfl) (by first | exact rfl | exact ⟨_, rfl, rfl, rfl⟩) rfl rfl (by decide) ?_)) | (refine kt_call ?_; (refine t_fnl (by first | exact rfl | exact ⟨_, rfl, rfl, rfl⟩) rfl (h8 h) rfl (by decide) ?_)))))
    all_goals exact r_ret Tryz.func73 _ (res_one rfl rfl) ⟨rfl, rfl⟩
  · have hv : relTbl[g.op.toNat]? = some [fnD 103] := by rw [h]; rfl
    repeat' (first | (refine k_op1 ?_; (first | refine o_litf (ys := relTbl) rfl rfl rfl rfl rfl rfl rfl rfl (by decide) ?_ | refine o_sv rfl (by decide) ?_ | (refine k_box ?_; (refine o_does (d_box_d rfl rfl (by decide)) ?_)))) | (refine k_ops ?_; (first | refine o_go (by first | exact .inl rfl | exact .inr ⟨_, _, _, rfl, rfl, rfl⟩) ?_ | refine o_nil ?_)) | (refine k_run ?_; (first | refine r_seq ?_ | refine r_region ?_ | refine r_tr ?_)) | (refine k_tr ?_; (first | (refine kt_end ?_; refine t_end mix (by kernel_rfl) ?_) | refine t_sv rfl (by first | exact rfl | exact ⟨_, rfl, rfl, rfl⟩) (by decide) ?_ | (refine kt_load ?_; (first | refine t_val (v_loada rfl rfl rfl) (by first | exact rfl | exact ⟨_, rfl, rfl, rfl⟩) rfl rfl (by decide) ?_ | refine t_val (v_load rfl rfl rfl rfl) (by first | exact rfl | exact ⟨_, rfl, rfl, rfl⟩) rfl rfl (by decide) ?_ | refine t_val (v_loade rfl rfl rfl) (by first | exact rfl | exact ⟨_, rfl, rfl, rfl⟩) rfl rfl (by decide) ?_)) | (refine kt_field ?_; (refine t_val (v_field rfl rfl) (by first | exact rfl | exact ⟨_, rfl, rfl, rfl⟩) rfl rfl (by decide) ?_)) | (refine kt_index ?_; (refine t_val (v_index rfl (by omega) hv rfl) (by first | exact rfl | exact ⟨_, rfl, rfl, rfl⟩) rfl rfl (by decide) ?_)) | (refine kt_call ?_; (refine t_fnl (by first | exact rfl | exact ⟨_, rfl, rfl, rfl⟩) rfl (h9 h) rfl (by decide) ?_)))))
    all_goals exact r_ret Tryz.func73 _ (res_one rfl rfl) ⟨rfl, rfl⟩

/-- what a constraint between x and y asks -/
def leafB (c : Corpus) (g : Lf) (i j : Int) : Bool := if g.op = 10 then decide (g.mn ≤ ((up c i).length : Int)) && decide (((up c i).length : Int) ≤ g.mx) else relP c g i j
theorem holds_leaf {c : Corpus} (hw : Wf c) (g : Lf) (h : LfOK g) (hgx : g.a = ⟨#[120]⟩) (hgy : g.op ≠ 10 → g.b = ⟨#[121]⟩) (b e : Int) {i j : Int} (hi : token c i = true) (hj : token c j = true) (hc : c.nodes.length ≤ 1000000) :
    PureF Tryz.prog 32 [c.d, g.d, .d (strs labXY), Dmat b e [i, j]] (B (leafB c g i j)) := by
  have htok := hw.tok
  have hul := up_len c i
  have ti := (token_iff c i).1 hi
  have tj := (token_iff c j).1 hj
  have hx : PureF Tryz.prog 69 [.d (strs labXY), Dmat b e [i, j], S g.a] (I .i64 i) := by rw [hgx]; exact tokX_s b e i j
  have hy : g.op ≠ 10 → PureF Tryz.prog 69 [.d (strs labXY), Dmat b e [i, j], S g.b] (I .i64 j) := fun e' => by rw [hgy e']; exact tokY_s b e i j
  have hop := h.op
  refine pure_of fun H => ?_
  refine spec_of Tryz.func32 (by kernel_rfl) rfl (by simp) ?_
  dsimp only [Tryz.f32]
  by_cases h10 : g.op = 10
  · repeat' (first | (refine k_op1 ?_; (first | refine o_sv rfl (by decide) ?_ | (refine k_load ?_; (first | refine o_val (v_loada rfl rfl rfl) rfl rfl (by decide) ?_ | refine o_val (v_load rfl rfl rfl rfl) rfl rfl (by decide) ?_)) | (refine k_field ?_; (refine o_val (v_field rfl rfl) rfl rfl (by decide) ?_)) | (refine k_blt ?_; (refine o_val (v_lenm rfl) rfl rfl (by decide) ?_)) | (refine k_call ?_; (first | refine o_fn hx rfl (by decide) ?_ | refine o_fn (upg_s hw hi) rfl (by decide) ?_)) | (refine k_store ?_; (refine o_store0 rfl rfl rfl rfl rfl rfl ?_)) | (refine k_alloc ?_; (refine o_does (d_alloc rfl rfl (by decide)) ?_)) | (refine k_box ?_; (refine o_does (d_box rfl rfl rfl rfl rfl (by decide)) ?_)) | refine o_mkfn rfl rfl (by decide) ?_)) | (refine k_ops ?_; (first | refine o_go (by first | exact .inl rfl | exact .inr ⟨_, _, _, rfl, rfl, rfl⟩) ?_ | refine o_nil ?_ | refine o_no rfl rfl (by decide) ?_ | refine o_casep rfl rfl (fun _ => ?_) (fun _ => ?_))) | (refine k_run ?_; (first | refine r_seq ?_ | refine r_region ?_ | refine r_skip ?_ | refine r_block ?_ | refine r_tr ?_ | refine r_inBlock ?_ | refine r_if rfl (fun _ => ?_) (fun _ => ?_))) | (refine k_tr ?_; (first | refine t_sv rfl (by first | exact rfl | exact ⟨_, rfl, rfl, rfl⟩) (by decide) ?_ | (refine kt_load ?_; (first | refine t_val (v_loada rfl rfl rfl) (by first | exact rfl | exact ⟨_, rfl, rfl, rfl⟩) rfl rfl (by decide) ?_ | refine t_val (v_load rfl rfl rfl rfl) (by first | exact rfl | exact ⟨_, rfl, rfl, rfl⟩) rfl rfl (by decide) ?_)) | (refine kt_field ?_; (refine t_val (v_field rfl rfl) (by first | exact rfl | exact ⟨_, rfl, rfl, rfl⟩) rfl rfl (by decide) ?_)))))
    all_goals try (exfalso; omega)
    all_goals
      refine r_ret Tryz.func32 _ (res_one rfl rfl) ⟨?_, rfl⟩
      rw [leafB, if_pos h10]
      first
        | (rw [decide_eq_true (p := g.mn ≤ ((up c i).length : Int)) (by assumption)]; rfl)
        | (rw [decide_eq_false (p := g.mn ≤ ((up c i).length : Int)) (by assumption)]; rfl)
  · have hrel := related_s hw g h.hl j hi hc (by omega)
    repeat' (first | (refine k_op1 ?_; (first | refine o_sv rfl (by decide) ?_ | (refine k_load ?_; (first | refine o_val (v_loada rfl rfl rfl) rfl rfl (by decide) ?_ | refine o_val (v_load rfl rfl rfl rfl) rfl rfl (by decide) ?_)) | (refine k_field ?_; (refine o_val (v_field rfl rfl) rfl rfl (by decide) ?_)) | (refine k_call ?_; (first | refine o_fn hx rfl (by decide) ?_ | refine o_fn (hy h10) rfl (by decide) ?_ | refine o_fn hrel rfl (by decide) ?_)) | (refine k_store ?_; (refine o_store0 rfl rfl rfl rfl rfl rfl ?_)) | (refine k_alloc ?_; (refine o_does (d_alloc rfl rfl (by decide)) ?_)) | (refine k_box ?_; (refine o_does (d_box rfl rfl rfl rfl rfl (by decide)) ?_)) | (refine k_build ?_; (refine o_build rfl rfl rfl rfl rfl rfl rfl (by decide) ?_)) | refine o_mkfn rfl rfl (by decide) ?_)) | (refine k_ops ?_; (first | refine o_go (by first | exact .inl rfl | exact .inr ⟨_, _, _, rfl, rfl, rfl⟩) ?_ | refine o_nil ?_ | refine o_no rfl rfl (by decide) ?_ | refine o_casep rfl rfl (fun _ => ?_) (fun _ => ?_))) | (refine k_run ?_; (first | refine r_seq ?_ | refine r_region ?_ | refine r_skip ?_ | refine r_block ?_ | refine r_tr ?_ | refine r_inBlock ?_ | refine r_if rfl (fun _ => ?_) (fun _ => ?_))) | (refine k_tr ?_; (first | refine t_sv rfl (by first | exact rfl | exact ⟨_, rfl, rfl, rfl⟩) (by decide) ?_ | (refine kt_load ?_; (first | refine t_val (v_loada rfl rfl rfl) (by first | exact rfl | exact ⟨_, rfl, rfl, rfl⟩) rfl rfl (by decide) ?_ | refine t_val (v_load rfl rfl rfl rfl) (by first | exact rfl | exact ⟨_, rfl, rfl, rfl⟩) rfl rfl (by decide) ?_)) | (refine kt_field ?_; (refine t_val (v_field rfl rfl) (by first | exact rfl | exact ⟨_, rfl, rfl, rfl⟩) rfl rfl (by decide) ?_)))))
    all_goals try (exfalso; omega)
    all_goals
      refine r_ret Tryz.func32 _ (res_one rfl rfl) ⟨?_, rfl⟩
      rw [leafB, if_neg h10]

theorem holdsG_s {c : Corpus} (hw : Wf c) (g : Lf) (h : LfOK g) (hgx : g.a = ⟨#[120]⟩) (hgy : g.op ≠ 10 → g.b = ⟨#[121]⟩) (b e : Int) {i j : Int} (hi : token c i = true) (hj : token c j = true) (hc : c.nodes.length ≤ 1000000) :
    PureF Tryz.prog 14 [c.d, g.d, .d (strs labXY), Dmat b e [i, j]] (B (leafB c g i j)) := by
  have htok := hw.tok
  have ti := (token_iff c i).1 hi
  have tj := (token_iff c j).1 hj
  have hf := fits_s c labXY b e [i, j] (by omega) (by simp) (by decide) rfl
  have hf' : PureF Tryz.prog 31 [c.d, .d (strs labXY), Dmat b e [i, j]] (B true) := by
    have e0 : (![i, j].any (outB c)) = true := by
      simp only [List.any_cons, List.any_nil, outB, Bool.or_false, Bool.not_eq_true', Bool.or_eq_false_iff, decide_eq_false_iff_not]
      omega
    rw [e0] at hf; exact hf
  refine pure_of fun H => ?_
  refine spec_of Tryz.func14 (by kernel_rfl) rfl (by simp) ?_
  dsimp only [Tryz.f14]
  repeat' (first | (refine k_op1 ?_; (first | refine o_sv rfl (by decide) ?_ | (refine k_load ?_; (refine o_val (v_loada rfl rfl rfl) rfl rfl (by decide) ?_)) | (refine k_call ?_; (first | refine o_fn (sound_s g h) rfl (by decide) ?_ | refine o_fn (known_leaf c g h) rfl (by decide) ?_ | refine o_fn hf' rfl (by decide) ?_ | refine o_fn (holds_leaf hw g h hgx hgy b e hi hj hc) rfl (by decide) ?_)) | (refine k_box ?_; (refine o_does (d_box rfl rfl rfl rfl rfl (by decide)) ?_)))) | (refine k_ops ?_; (first | refine o_go (by first | exact .inl rfl | exact .inr ⟨_, _, _, rfl, rfl, rfl⟩) ?_ | refine o_nil ?_)) | (refine k_run ?_; (first | refine r_seq ?_ | refine r_region ?_)))
  all_goals first
    | exact r_ret Tryz.func14 _ (res_one rfl rfl) ⟨rfl, rfl⟩
    | (exfalso; simp_all; done)
end Go.Proofs.YtonhfccmeammbaaGreatDoor
