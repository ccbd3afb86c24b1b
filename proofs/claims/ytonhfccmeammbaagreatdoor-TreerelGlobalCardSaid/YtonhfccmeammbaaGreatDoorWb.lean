/- What the validating functions compute, for every corpus of moderate size. -/
import Derived.Test.YtonhfccmeammbaaGreatDoorWa
set_option linter.all false
set_option linter.unusedVariables false
set_option linter.unusedSimpArgs false
namespace Go.Proofs.YtonhfccmeammbaaGreatDoor
open Go.Ab
attribute [local irreducible] Run Ops Op1 Does Val Tr PureF Eff1 NF Rel

def signOf (b : Bool) : Int := if b then -1 else 1
theorem sign_s (b : Bool) : PureF Tryz.prog 111 [B b] (I .i64 (signOf b)) := by
  refine pure_of fun H => ?_
  refine spec_of Tryz.func111 (by kernel_rfl) rfl (by simp) ?_
  dsimp only [Tryz.f111]
  cases b <;> repeat' (first | (refine k_op1 ?_; (refine o_sv rfl (by decide) ?_)) | (refine k_ops ?_; (first | refine o_go (by first | exact .inl rfl | exact .inr ⟨_, _, _, rfl, rfl, rfl⟩) ?_ | refine o_nil ?_)) | (refine k_run ?_; (first | refine r_seq ?_ | refine r_region ?_ | refine r_true rfl ?_ | refine r_false rfl ?_ | refine r_skip ?_)))
  all_goals exact r_ret Tryz.func111 _ (res_one rfl rfl) ⟨rfl, rfl⟩

def cmpStr (a b : Str) : Int := if Op.bytesLess a.toList b.toList then -1 else if Op.bytesLess a.toList b.toList || decide (a = b) then 0 else 1
theorem compare_s (a b : Str) : PureF Tryz.prog 112 [S a, S b] (I .i64 (cmpStr a b)) := by
  refine pure_of fun H => ?_
  refine spec_of Tryz.func112 (by kernel_rfl) rfl (by simp) ?_
  dsimp only [Tryz.f112]
  repeat' (first | (refine k_op1 ?_; (first | refine o_sv rfl (by decide) ?_ | (refine k_bin ?_; (first | refine o_val v_slss rfl rfl (by decide) ?_ | refine o_val v_sgtr rfl rfl (by decide) ?_)))) | (refine k_ops ?_; (first | refine o_go (by first | exact .inl rfl | exact .inr ⟨_, _, _, rfl, rfl, rfl⟩) ?_ | refine o_nil ?_)) | (refine k_run ?_; (first | refine r_seq ?_ | refine r_region ?_ | refine r_skip ?_ | refine r_block ?_ | refine r_inBlock ?_ | refine r_cond rfl (fun _ => ?_) (fun _ => ?_))))
  all_goals refine r_ret Tryz.func112 _ (res_one rfl rfl) ⟨?_, rfl⟩
  all_goals simp_all [cmpStr]

theorem first_s (b : UInt8) : NF Tryz.prog 163 [I .u8 b.toNat] IsB := by
  refine nf_of fun H => ?_
  refine spec_of Tryz.func163 (by kernel_rfl) rfl (by simp) ?_
  dsimp only [Tryz.f163]
  repeat' (first | (refine k_op1 ?_; (refine o_sv rfl (by decide) ?_)) | (refine k_ops ?_; (first | refine o_go (by first | exact .inl rfl | exact .inr ⟨_, _, _, rfl, rfl, rfl⟩) ?_ | refine o_nil ?_ | refine o_no rfl rfl (by decide) ?_ | refine o_no2 rfl rfl (by decide) ?_ | refine o_casep rfl rfl (fun _ => ?_) (fun _ => ?_))) | (refine k_run ?_; (first | refine r_seq ?_ | refine r_region ?_)))
  all_goals exact r_ret Tryz.func163 _ (res_one rfl rfl) ⟨_, rfl, ⟨_, rfl⟩, rfl⟩
theorem next_b (b : UInt8) : NF Tryz.prog 164 [I .u8 b.toNat] IsB := by
  refine nf_of fun H => ?_
  refine spec_of Tryz.func164 (by kernel_rfl) rfl (by simp) ?_
  dsimp only [Tryz.f164]
  repeat' (first | (refine k_op1 ?_; (first | refine o_sv rfl (by decide) ?_ | (refine k_call ?_; ((refine o_nf (first_s _) rfl (by decide) (fun p hp => ?_); obtain ⟨_, rfl⟩ := hp))))) | (refine k_ops ?_; (first | refine o_go (by first | exact .inl rfl | exact .inr ⟨_, _, _, rfl, rfl, rfl⟩) ?_ | refine o_nil ?_ | refine o_no rfl rfl (by decide) ?_ | refine o_no2 rfl rfl (by decide) ?_ | refine o_casep rfl rfl (fun _ => ?_) (fun _ => ?_) | refine o_case rfl rfl (fun _ => ?_) (fun _ => ?_))) | (refine k_run ?_; (first | refine r_seq ?_ | refine r_region ?_)))
  all_goals exact r_ret Tryz.func164 _ (res_one rfl rfl) ⟨_, rfl, ⟨_, rfl⟩, rfl⟩

theorem sbyte {s : Str} {i : Int} (h0 : 0 ≤ i) (h : i < s.size) : ∃ b, s[i.toNat]? = some b := ⟨_, getElem?_pos s i.toNat (by omega)⟩
end Go.Proofs.YtonhfccmeammbaaGreatDoor
namespace Go.Proofs.YtonhfccmeammbaaGreatDoor
open Go.Ab
set_option maxHeartbeats 2000000
attribute [local irreducible] Run Ops Op1 Does Val Tr PureF Eff1 NF Rel

structure RUnit where
  r : Int
  at_ : Int
  size : Int
  ok : Bool
def RUnit.cs (u : RUnit) : List D := [.lit (.int .i32 u.r), Dint u.at_, Dint u.size, Dbool u.ok]
def IsUnits (m : Nat) (p : PV) : Prop := ∃ us : List RUnit, us.length ≤ m ∧ p = .d (.slice (us.map RUnit.cs))

theorem snoc_cases {α : Type} (l : List α) : l = [] ∨ ∃ q x, l = q ++ [x] := rev_cases l
theorem last_get {α : Type} (q : List α) (x : α) {i : Int} (h : i = ((q ++ [x]).length : Int) - 1) : (q ++ [x])[i.toNat]? = some x := by
  have : i.toNat = q.length := by rw [h]; simp
  rw [this]; simp
theorem last_set {α : Type} (q : List α) (x y : α) {i : Int} (h : i = ((q ++ [x]).length : Int) - 1) : (q ++ [x]).set i.toNat y = q ++ [y] := by
  have : i.toNat = q.length := by rw [h]; simp
  rw [this]; simp

theorem decode_width_pos (s : ByteArray) (pos : Nat) (h : pos < s.size) : 1 ≤ (Utf8.decode s pos).2 := by
  by_cases ha : (s[pos]'h).toNat < 128
  · rw [decode_ascii s pos h ha]
    exact Nat.le_refl _
  · exact (decode_high s pos h (by omega)).2
theorem units_s (s : Str) (hs : s.size ≤ 1000000) : NF Tryz.prog 104 [S s] (IsUnits s.size) := by
  refine nf_of fun H => ?_
  refine spec_of Tryz.func104 (by kernel_rfl) rfl (by simp) ?_
  dsimp only [Tryz.f104]
  repeat' (first | (refine k_op1 ?_; (first | refine o_nil_row rfl rfl rfl (by decide) ?_ | refine o_sv rfl (by decide) ?_ | refine o_range rfl rfl rfl (by decide) ?_)) | (refine k_ops ?_; (first | refine o_go (by first | exact .inl rfl | exact .inr ⟨_, _, _, rfl, rfl, rfl⟩) ?_ | refine o_nil ?_)) | (refine k_run ?_; (first | refine r_seq ?_ | refine r_region ?_ | refine r_block ?_)))
  refine r_loop ?_
  refine r_less (r_inv (fun q : List RUnit × Nat => ⟨81, [(0, S s), (3, .ref (0, 3)), (8, .ptr (0, 8) 0)], [(3, .row 137 4 (q.1.map RUnit.cs)), (8, .siter s q.2)], H⟩)
    (fun q => q.1.length ≤ q.2 ∧ q.1.length ≤ s.size ∧ ∀ u ∈ q.1, 0 ≤ u.at_ ∧ u.at_ ≤ s.size) (fun q => s.size - q.2) ?_ ([], 0) ⟨by simp, by simp, by simp⟩) rfl rfl
  intro ⟨us, at_⟩ ⟨h1, h2, h3⟩ ih
  simp only at h1 h2 h3 ih ⊢
  by_cases hlt : at_ < s.size
  · have hw := decode_width_pos s at_ hlt
    rcases snoc_cases us with rfl | ⟨vs, u, rfl⟩
    · repeat' (first | (refine k_op1 ?_; (first | refine o_sv rfl (by decide) ?_ | (refine k_blt ?_; (first | refine o_app1 rfl rfl (RUnit.mk (Utf8.decode s at_).1 at_ 0 false) rfl rfl rfl rfl rfl rfl rfl (by decide) (by simp <;> omega) ?_ | refine o_val (v_lenrm rfl) rfl rfl (by decide) ?_)) | (refine k_build ?_; (refine o_build rfl rfl rfl rfl rfl rfl rfl (by decide) ?_)) | (refine k_lit ?_; (refine o_lit rfl rfl rfl rfl rfl rfl rfl rfl (by decide) ?_)) | refine o_next_more hlt rfl rfl (by decide) ?_)) | (refine k_ops ?_; (first | refine o_go (by first | exact .inl rfl | exact .inr ⟨_, _, _, rfl, rfl, rfl⟩) ?_ | refine o_nil ?_)) | (refine k_run ?_; (first | refine r_seq ?_ | refine r_region ?_ | refine r_true rfl ?_ | refine r_false rfl ?_ | refine r_skip ?_ | refine r_block ?_ | refine r_inBlock ?_)))
      refine r_ren 36 3 rfl rfl ?_
      refine r_less (ih ([RUnit.mk (Utf8.decode s at_).1 at_ 0 false], at_ + (Utf8.decode s at_).2) ⟨by simp; omega, by simp; omega, by simp; omega⟩ (by simp; omega)) rfl rfl
    · have hu := h3 u (by simp)
      have hl : (vs ++ [u]).length = vs.length + 1 := by simp
      repeat' (first | (refine k_op1 ?_; (first | refine o_sv rfl (by decide) ?_ | (refine k_load ?_; (refine o_val (v_rloadm (last_get _ _ rfl) rfl rfl rfl) rfl rfl (by decide) ?_)) | (refine k_field ?_; (refine o_val (v_fieldr rfl rfl) rfl rfl (by decide) ?_)) | (refine k_index ?_; (refine o_val (v_rindex rfl (by omega) (by simp; omega) rfl) rfl rfl (by decide) ?_)) | (refine k_bin ?_; (refine o_val (v_sub (wi64 (by omega) (by omega))) rfl rfl (by decide) ?_)) | (refine k_blt ?_; (first | refine o_app1 rfl rfl (RUnit.mk (Utf8.decode s at_).1 at_ 0 false) rfl rfl rfl rfl rfl rfl rfl (by decide) (by simp <;> omega) ?_ | refine o_val (v_lenrm rfl) rfl rfl (by decide) ?_)) | (refine k_store ?_; (refine o_rstorem {u with size := at_ - u.at_} rfl rfl rfl rfl (last_get _ _ rfl) rfl rfl (by rfl) (last_set _ _ _ rfl) ?_)) | (refine k_build ?_; (refine o_build rfl rfl rfl rfl rfl rfl rfl (by decide) ?_)) | (refine k_lit ?_; (refine o_lit rfl rfl rfl rfl rfl rfl rfl rfl (by decide) ?_)) | refine o_next_more hlt rfl rfl (by decide) ?_)) | (refine k_ops ?_; (first | refine o_go (by first | exact .inl rfl | exact .inr ⟨_, _, _, rfl, rfl, rfl⟩) ?_ | refine o_nil ?_)) | (refine k_run ?_; (first | refine r_seq ?_ | refine r_region ?_ | refine r_true rfl ?_ | refine r_skip ?_ | refine r_block ?_ | refine r_inBlock ?_ | refine r_if rfl (fun _ => ?_) (fun _ => ?_))))
      · refine r_ren 36 3 rfl rfl ?_
        refine r_less (ih (vs ++ [{u with size := at_ - u.at_}] ++ [RUnit.mk (Utf8.decode s at_).1 at_ 0 false], at_ + (Utf8.decode s at_).2) ⟨by simp; omega, by simp; omega, fun w hw => ?_⟩ (by simp; omega)) rfl rfl
        simp only [List.mem_append, List.mem_singleton, or_assoc] at hw
        rcases hw with hw | rfl | rfl
        · exact h3 w (by simp [hw])
        · exact hu
        · simp; omega
      · rename_i h; simp at h
  · rcases snoc_cases us with rfl | ⟨vs, u, rfl⟩
    · repeat' (first | (refine k_op1 ?_; (first | refine o_sv rfl (by decide) ?_ | (refine k_blt ?_; (refine o_val (v_lenrm rfl) rfl rfl (by decide) ?_)) | refine o_next_over hlt rfl rfl (by decide) ?_)) | (refine k_ops ?_; (first | refine o_go (by first | exact .inl rfl | exact .inr ⟨_, _, _, rfl, rfl, rfl⟩) ?_ | refine o_nil ?_)) | (refine k_run ?_; (first | refine r_seq ?_ | refine r_region ?_ | refine r_false rfl ?_ | refine r_skip ?_ | refine r_block ?_ | refine r_exit rfl ?_)))
      refine r_loop ?_
      refine r_inLoop ?_
      repeat' (first | (refine k_op1 ?_; (refine o_sv rfl (by decide) ?_)) | (refine k_ops ?_; (first | refine o_go (by first | exact .inl rfl | exact .inr ⟨_, _, _, rfl, rfl, rfl⟩) ?_ | refine o_nil ?_)) | (refine k_run ?_; (first | refine r_seq ?_ | refine r_region ?_ | refine r_false rfl ?_ | refine r_exit rfl ?_)))
      refine r_freeze 3 rfl ?_
      exact r_ret Tryz.func104 _ (res_one rfl rfl) ⟨_, rfl, ⟨[], by simp, rfl⟩, rfl⟩
    · have hu := h3 u (by simp)
      have hl : (vs ++ [u]).length = vs.length + 1 := by simp
      repeat' (first | (refine k_op1 ?_; (first | refine o_sv rfl (by decide) ?_ | (refine k_load ?_; (refine o_val (v_rloadm (last_get _ _ rfl) rfl rfl rfl) rfl rfl (by decide) ?_)) | (refine k_field ?_; (refine o_val (v_fieldr rfl rfl) rfl rfl (by decide) ?_)) | (refine k_index ?_; (refine o_val (v_rindex rfl (by omega) (by simp; omega) rfl) rfl rfl (by decide) ?_)) | (refine k_bin ?_; (refine o_val (v_sub (wi64 (by omega) (by omega))) rfl rfl (by decide) ?_)) | (refine k_blt ?_; (first | refine o_val (v_lens rfl) rfl rfl (by decide) ?_ | refine o_val (v_lenrm rfl) rfl rfl (by decide) ?_)) | (refine k_store ?_; (refine o_rstorem {u with size := s.size - u.at_} rfl rfl rfl rfl (last_get _ _ rfl) rfl rfl (by rfl) (last_set _ _ _ rfl) ?_)) | refine o_next_over hlt rfl rfl (by decide) ?_)) | (refine k_ops ?_; (first | refine o_go (by first | exact .inl rfl | exact .inr ⟨_, _, _, rfl, rfl, rfl⟩) ?_ | refine o_nil ?_)) | (refine k_run ?_; (first | refine r_seq ?_ | refine r_region ?_ | refine r_false rfl ?_ | refine r_skip ?_ | refine r_block ?_ | refine r_if rfl (fun _ => ?_) (fun _ => ?_) | refine r_exit rfl ?_)))
      · rename_i h0
        refine r_loop ?_
        refine r_less (r_inv (fun q : List RUnit × Nat => ⟨81, [(3, .ref (0, 3)), (57, I .i64 (vs ++ [{u with size := s.size - u.at_}] : List RUnit).length), (58, I .i64 q.2)], [(3, .row 137 4 (q.1.map RUnit.cs))], H⟩)
          (fun q => q.1.length = (vs ++ [{u with size := s.size - u.at_}] : List RUnit).length ∧ q.2 ≤ q.1.length) (fun q => q.1.length - q.2) ?_ (vs ++ [{u with size := s.size - u.at_}], 0) ⟨rfl, Nat.zero_le _⟩) rfl rfl
        intro ⟨xs, k⟩ ⟨e1, e2⟩ ih2
        simp only at e1 e2 ih2 ⊢
        have hL : xs.length ≤ s.size := by rw [e1]; simpa using h2
        by_cases hlk : k < xs.length
        · obtain ⟨x, hx⟩ : ∃ x, xs[k]? = some x := ⟨_, List.getElem?_eq_getElem hlk⟩
          have hx2 : xs[((k : Nat) : Int).toNat]? = some x := by simpa using hx
          repeat' (first | (refine k_op1 ?_; (first | refine o_sv rfl (by decide) ?_ | (refine k_load ?_; (refine o_val (v_rloadm hx2 rfl rfl rfl) rfl rfl (by decide) ?_)) | (refine k_field ?_; (refine o_val (v_fieldr rfl rfl) rfl rfl (by decide) ?_)) | (refine k_index ?_; (refine o_val (v_rindex rfl (by omega) (by simp; omega) rfl) rfl rfl (by decide) ?_)) | (refine k_bin ?_; (refine o_val (v_add (wi64 (by omega) (by omega))) rfl rfl (by decide) ?_)) | (refine k_store ?_; (first | refine o_rstorem (RUnit.mk x.r x.at_ x.size true) (by rfl) (by rfl) (by rfl) (by rfl) hx2 (by rfl) (by rfl) (by rfl) (by rfl) ?_ | refine o_rstorem (RUnit.mk x.r x.at_ x.size (decide (x.size = 3))) (by rfl) (by rfl) (by rfl) (by rfl) hx2 (by rfl) (by rfl) (by rfl) (by rfl) ?_)))) | (refine k_ops ?_; (first | refine o_go (by first | exact .inl rfl | exact .inr ⟨_, _, _, rfl, rfl, rfl⟩) ?_ | refine o_nil ?_ | refine o_no rfl rfl (by decide) ?_ | refine o_casen rfl rfl (fun _ => ?_) (fun _ => ?_))) | (refine k_run ?_; (first | refine r_seq ?_ | refine r_region ?_ | refine r_skip ?_ | refine r_block ?_ | refine r_inBlock ?_ | refine r_if rfl (fun _ => ?_) (fun _ => ?_) | refine r_exit rfl ?_)))
          all_goals first
            | exact r_less (ih2 (xs.set ((k : Nat) : Int).toNat (RUnit.mk x.r x.at_ x.size true), k + 1) ⟨by simpa using e1, by simp; omega⟩ (by simp; omega)) rfl rfl
            | exact r_less (ih2 (xs.set ((k : Nat) : Int).toNat (RUnit.mk x.r x.at_ x.size (decide (x.size = 3))), k + 1) ⟨by simpa using e1, by simp; omega⟩ (by simp; omega)) rfl rfl
            | (exfalso; omega)
        · repeat' (first | (refine k_op1 ?_; (first | refine o_sv rfl (by decide) ?_ | (refine k_field ?_; (refine o_val (v_fieldr rfl rfl) rfl rfl (by decide) ?_)) | (refine k_index ?_; (refine o_val (v_rindex rfl (by omega) (by simp; omega) rfl) rfl rfl (by decide) ?_)))) | (refine k_ops ?_; (first | refine o_go (by first | exact .inl rfl | exact .inr ⟨_, _, _, rfl, rfl, rfl⟩) ?_ | refine o_nil ?_)) | (refine k_run ?_; (first | refine r_seq ?_ | refine r_region ?_ | refine r_skip ?_ | refine r_block ?_ | refine r_if rfl (fun _ => ?_) (fun _ => ?_) | refine r_exit rfl ?_)))
          · exfalso; omega
          · refine r_freeze 3 rfl ?_
            exact r_ret Tryz.func104 _ (res_one rfl rfl) ⟨_, rfl, ⟨xs, by have := h2; simp at this e1; omega, rfl⟩, rfl⟩
      · rename_i h0; simp at h0
end Go.Proofs.YtonhfccmeammbaaGreatDoor
namespace Go.Proofs.YtonhfccmeammbaaGreatDoor
open Go.Ab
set_option maxHeartbeats 2000000
attribute [local irreducible] Run Ops Op1 Does Val Tr PureF Eff1 NF Rel

def SmP (l : List Pair) : Prop := l.length ≤ 1000000 ∧ ∀ p ∈ l, p.name.size ≤ 1000000 ∧ p.value.size ≤ 1000000
/-- a corpus of moderate size -/
structure Small (c : Corpus) : Prop where
  toks : c.tokens.length ≤ 1000000
  ntexts : c.texts.length ≤ 1000000
  nattrs : c.attrs.length ≤ 1000000
  nregs : c.regions.length ≤ 1000000
  nnodes : c.nodes.length ≤ 1000000
  nheads : c.heads.length ≤ 1000000
  nrels : c.rels.length ≤ 1000000
  attr : ∀ a ∈ c.attrs, a.name.size ≤ 1000000
  tok : ∀ t ∈ c.tokens, t.length ≤ 1000000 ∧ ∀ v ∈ t, v.size ≤ 1000000
  text : ∀ t ∈ c.texts, t.name.size ≤ 1000000 ∧ SmP t.meta_ ∧ 0 ≤ t.b ∧ t.b ≤ 1000000 ∧ 0 ≤ t.e ∧ t.e ≤ 1000000
  reg : ∀ x ∈ c.regions, x.type.size ≤ 1000000 ∧ SmP x.keys ∧ 0 ≤ x.b ∧ x.b ≤ 1000000 ∧ 0 ≤ x.e ∧ x.e ≤ 1000000
  node : ∀ x ∈ c.nodes, x.label.size ≤ 1000000 ∧ 0 ≤ x.b ∧ x.b ≤ 1000000 ∧ 0 ≤ x.e ∧ x.e ≤ 1000000 ∧ -1 ≤ x.parent ∧ x.parent ≤ 1000000
  rel : ∀ x ∈ c.rels, x.size ≤ 1000000
end Go.Proofs.YtonhfccmeammbaaGreatDoor
namespace Go.Proofs.YtonhfccmeammbaaGreatDoor
open Go.Ab
set_option maxHeartbeats 2000000
attribute [local irreducible] Run Ops Op1 Does Val Tr PureF Eff1 NF Rel
def IsDI (p : PV) : Prop := ∃ (x : D) (e : Int), p = .tup [.d x, I .i64 e]

theorem validName_s (s : Str) (hs : s.size ≤ 1000000) : NF Tryz.prog 138 [S s] IsB := by
  refine nf_of fun H => ?_
  refine spec_of Tryz.func138 (by kernel_rfl) rfl (by simp) ?_
  dsimp only [Tryz.f138]
  repeat' (first | (refine k_op1 ?_; (first | refine o_sv rfl (by decide) ?_ | (refine k_sindex ?_; (refine o_val (v_sindex rfl (by omega) (sbyte (by omega) (by omega)).choose_spec) rfl rfl (by decide) ?_)) | (refine k_blt ?_; (refine o_val (v_lens rfl) rfl rfl (by decide) ?_)) | (refine k_call ?_; ((refine o_nf (first_s _) rfl (by decide) (fun p hp => ?_); obtain ⟨_, rfl⟩ := hp))))) | (refine k_ops ?_; (first | refine o_go (by first | exact .inl rfl | exact .inr ⟨_, _, _, rfl, rfl, rfl⟩) ?_ | refine o_nil ?_ | refine o_no rfl rfl (by decide) ?_ | refine o_casep rfl rfl (fun _ => ?_) (fun _ => ?_))) | (refine k_run ?_; (first | refine r_seq ?_ | refine r_region ?_ | refine r_true rfl ?_ | refine r_skip ?_ | refine r_block ?_ | refine r_cond rfl (fun _ => ?_) (fun _ => ?_))))
  all_goals try (first | exact r_ret Tryz.func138 _ (res_one rfl rfl) ⟨_, rfl, ⟨_, rfl⟩, rfl⟩ | (exfalso; omega) | (exfalso; simp_all; done))
  all_goals
    refine r_loop ?_
    refine r_less (r_inv (fun k1 : Nat => ⟨29, [(0, PV.lift 1 (S s)), (3, I .i64 (k1 : Nat))], [], H⟩) (fun k1 : Nat => 1 ≤ k1 ∧ k1 ≤ s.size + 1) (fun k1 : Nat => s.size + 1 - k1) ?_ 1 (by omega)) rfl rfl
    intro k1 hk1 ih1
    by_cases hlt1 : k1 < s.size
    case pos =>
      repeat' (first | (refine k_op1 ?_; (first | refine o_sv rfl (by decide) ?_ | (refine k_sindex ?_; (refine o_val (v_sindex rfl (by omega) (sbyte (by omega) (by omega)).choose_spec) rfl rfl (by decide) ?_)) | (refine k_bin ?_; (refine o_val (v_add (wi64 (by omega) (by omega))) rfl rfl (by decide) ?_)) | (refine k_blt ?_; (refine o_val (v_lens rfl) rfl rfl (by decide) ?_)) | (refine k_call ?_; ((refine o_nf (next_b _) rfl (by decide) (fun p hp => ?_); obtain ⟨_, rfl⟩ := hp))))) | (refine k_ops ?_; (first | refine o_go (by first | exact .inl rfl | exact .inr ⟨_, _, _, rfl, rfl, rfl⟩) ?_ | refine o_nil ?_)) | (refine k_run ?_; (first | refine r_seq ?_ | refine r_region ?_ | refine r_skip ?_ | refine r_block ?_ | refine r_inBlock ?_ | refine r_if rfl (fun _ => ?_) (fun _ => ?_) | refine r_cond rfl (fun _ => ?_) (fun _ => ?_) | refine r_exit rfl ?_)))
      all_goals try (first | exact r_ret Tryz.func138 _ (res_one rfl rfl) ⟨_, rfl, ⟨_, rfl⟩, rfl⟩ | exact r_less (ih1 (k1 + 1) (by omega) (by omega)) rfl rfl | (exfalso; omega) | (exfalso; simp_all; done))
    case neg =>
      repeat' (first | (refine k_op1 ?_; (first | refine o_sv rfl (by decide) ?_ | (refine k_sindex ?_; (refine o_val (v_sindex rfl (by omega) (sbyte (by omega) (by omega)).choose_spec) rfl rfl (by decide) ?_)) | (refine k_bin ?_; (refine o_val (v_add (wi64 (by omega) (by omega))) rfl rfl (by decide) ?_)) | (refine k_blt ?_; (refine o_val (v_lens rfl) rfl rfl (by decide) ?_)) | (refine k_call ?_; ((refine o_nf (next_b _) rfl (by decide) (fun p hp => ?_); obtain ⟨_, rfl⟩ := hp))))) | (refine k_ops ?_; (first | refine o_go (by first | exact .inl rfl | exact .inr ⟨_, _, _, rfl, rfl, rfl⟩) ?_ | refine o_nil ?_)) | (refine k_run ?_; (first | refine r_seq ?_ | refine r_region ?_ | refine r_skip ?_ | refine r_block ?_ | refine r_inBlock ?_ | refine r_if rfl (fun _ => ?_) (fun _ => ?_) | refine r_cond rfl (fun _ => ?_) (fun _ => ?_) | refine r_exit rfl ?_)))
      all_goals try (first | exact r_ret Tryz.func138 _ (res_one rfl rfl) ⟨_, rfl, ⟨_, rfl⟩, rfl⟩ | (exfalso; omega) | (exfalso; simp_all; done))

theorem cyclic_s (hh : List Int) (i : Int) (h1 : hh.length ≤ 1000000) (h0 : 0 ≤ i) (hi : i < hh.length) : NF Tryz.prog 144 [.d (ints hh), I .i64 i] IsB := by
  refine nf_of fun H => ?_
  refine spec_of Tryz.func144 (by kernel_rfl) rfl (by simp) ?_
  dsimp only [Tryz.f144]
  repeat' (first | (refine k_op1 ?_; (first | refine o_sv rfl (by decide) ?_ | (refine k_blt ?_; (refine o_val (v_lenm rfl) rfl rfl (by decide) ?_)))) | (refine k_ops ?_; (first | refine o_go (by first | exact .inl rfl | exact .inr ⟨_, _, _, rfl, rfl, rfl⟩) ?_ | refine o_nil ?_)) | (refine k_run ?_; (first | refine r_seq ?_ | refine r_region ?_ | refine r_block ?_)))
  all_goals try (first | exact r_ret Tryz.func144 _ (res_one rfl rfl) ⟨_, rfl, ⟨_, rfl⟩, rfl⟩ | (exfalso; omega) | (exfalso; simp_all; done))
  all_goals
    refine r_loop ?_
    refine r_less (r_inv (fun q : Nat × Int => ⟨27, [(0, PV.lift 1 (PV.d (ints hh))), (1, PV.lift 1 (I IntKind.i64 i)), (5, I .i64 q.2), (8, I IntKind.i64 ↑hh.length), (9, I .i64 (q.1 : Nat))], [], H⟩) (fun q : Nat × Int => q.1 ≤ hh.length ∧ 0 ≤ q.2 ∧ q.2 < hh.length) (fun q : Nat × Int => hh.length - q.1) ?_ ⟨0, _⟩ ⟨Nat.zero_le _, h0, hi⟩) rfl rfl
    intro ⟨k1, m1_5⟩ hk1 ih1
    simp only at hk1 ih1 ⊢
    by_cases hlt1 : k1 < hh.length
    case pos =>
      obtain ⟨x1, hx1⟩ : ∃ x, hh[m1_5.toNat]? = some x := ⟨_, List.getElem?_eq_getElem (by omega)⟩
      repeat' (first | (refine k_op1 ?_; (first | refine o_sv rfl (by decide) ?_ | (refine k_load ?_; (refine o_val (v_loade rfl rfl rfl) rfl rfl (by decide) ?_)) | (refine k_index ?_; (refine o_val (v_index rfl (by omega) (idxi hx1) rfl) rfl rfl (by decide) ?_)) | (refine k_bin ?_; (refine o_val (v_add (wi64 (by omega) (by omega))) rfl rfl (by decide) ?_)) | (refine k_blt ?_; (refine o_val (v_lenm rfl) rfl rfl (by decide) ?_)))) | (refine k_ops ?_; (first | refine o_go (by first | exact .inl rfl | exact .inr ⟨_, _, _, rfl, rfl, rfl⟩) ?_ | refine o_nil ?_ | refine o_no rfl rfl (by decide) ?_ | refine o_casep rfl rfl (fun _ => ?_) (fun _ => ?_))) | (refine k_run ?_; (first | refine r_seq ?_ | refine r_region ?_ | refine r_true rfl ?_ | refine r_skip ?_ | refine r_block ?_ | refine r_inBlock ?_ | refine r_if rfl (fun _ => ?_) (fun _ => ?_) | refine r_exit rfl ?_)))
      all_goals try (first | exact r_ret Tryz.func144 _ (res_one rfl rfl) ⟨_, rfl, ⟨_, rfl⟩, rfl⟩ | exact r_less (ih1 ⟨k1 + 1, _⟩ ⟨by omega, by omega, by omega⟩ (by omega)) rfl rfl | (exfalso; omega) | (exfalso; simp_all; done))
    case neg =>
      repeat' (first | (refine k_op1 ?_; (refine o_sv rfl (by decide) ?_)) | (refine k_ops ?_; (first | refine o_go (by first | exact .inl rfl | exact .inr ⟨_, _, _, rfl, rfl, rfl⟩) ?_ | refine o_nil ?_)) | (refine k_run ?_; (first | refine r_seq ?_ | refine r_region ?_ | refine r_skip ?_ | refine r_block ?_ | refine r_if rfl (fun _ => ?_) (fun _ => ?_) | refine r_exit rfl ?_)))
      all_goals try (first | exact r_ret Tryz.func144 _ (res_one rfl rfl) ⟨_, rfl, ⟨_, rfl⟩, rfl⟩ | (exfalso; omega) | (exfalso; simp_all; done))

theorem within_s (c : Corpus) (b e : Int) (hc : Small c) : NF Tryz.prog 141 [c.d, I .i64 b, I .i64 e] IsB := by
  refine nf_of fun H => ?_
  refine spec_of Tryz.func141 (by kernel_rfl) rfl (by simp) ?_
  dsimp only [Tryz.f141]
  have := hc.ntexts
  repeat' (first | (refine k_op1 ?_; (first | refine o_sv rfl (by decide) ?_ | (refine k_load ?_; (refine o_val (v_load rfl rfl rfl rfl) rfl rfl (by decide) ?_)) | (refine k_field ?_; (refine o_val (v_field rfl rfl) rfl rfl (by decide) ?_)) | (refine k_blt ?_; (refine o_val (v_lenm rfl) rfl rfl (by decide) ?_)) | (refine k_box ?_; (refine o_does (d_box_d rfl rfl (by decide)) ?_)))) | (refine k_ops ?_; (first | refine o_go (by first | exact .inl rfl | exact .inr ⟨_, _, _, rfl, rfl, rfl⟩) ?_ | refine o_nil ?_)) | (refine k_run ?_; (first | refine r_seq ?_ | refine r_region ?_ | refine r_block ?_)))
  all_goals try (first | exact r_ret Tryz.func141 _ (res_one rfl rfl) ⟨_, rfl, ⟨_, rfl⟩, rfl⟩ | (exfalso; omega) | (exfalso; simp_all; done))
  all_goals
    refine r_loop ?_
    refine r_less (r_inv (fun k1 : Nat => ⟨32, [(1, PV.lift 1 (I IntKind.i64 b)), (2, PV.lift 1 (I IntKind.i64 e)), (10, PV.d (D.slice (List.map Text.cs c.texts))), (11, I IntKind.i64 ↑c.texts.length), (12, I .i64 (k1 : Nat))], [], H⟩) (fun k1 : Nat => k1 ≤ c.texts.length) (fun k1 : Nat => c.texts.length - k1) ?_ 0 (Nat.zero_le _)) rfl rfl
    intro k1 hk1 ih1
    by_cases hlt1 : k1 < c.texts.length
    case pos =>
      obtain ⟨x1, hx1⟩ : ∃ x, c.texts[k1]? = some x := ⟨_, List.getElem?_eq_getElem (by first | omega | (simp; omega))⟩
      repeat' (first | (refine k_op1 ?_; (first | refine o_sv rfl (by decide) ?_ | (refine k_load ?_; (first | refine o_val (v_load rfl rfl rfl rfl) rfl rfl (by decide) ?_ | refine o_val (v_loadea rfl rfl) rfl rfl (by decide) ?_)) | (refine k_field ?_; (refine o_val (v_field rfl rfl) rfl rfl (by decide) ?_)) | (refine k_index ?_; (refine o_val (v_index rfl (by omega) (idx hx1) rfl) rfl rfl (by decide) ?_)) | (refine k_bin ?_; (refine o_val (v_add (wi64 (by omega) (by omega))) rfl rfl (by decide) ?_)) | (refine k_store ?_; (refine o_store0 rfl rfl rfl rfl rfl rfl ?_)) | (refine k_alloc ?_; (refine o_does (d_alloc rfl rfl (by decide)) ?_)))) | (refine k_ops ?_; (first | refine o_go (by first | exact .inl rfl | exact .inr ⟨_, _, _, rfl, rfl, rfl⟩) ?_ | refine o_nil ?_ | refine o_no rfl rfl (by decide) ?_ | refine o_casep rfl rfl (fun _ => ?_) (fun _ => ?_))) | (refine k_run ?_; (first | refine r_seq ?_ | refine r_region ?_ | refine r_false rfl ?_ | refine r_skip ?_ | refine r_block ?_ | refine r_inBlock ?_ | refine r_if rfl (fun _ => ?_) (fun _ => ?_) | refine r_exit rfl ?_)))
      all_goals try (first | exact r_ret Tryz.func141 _ (res_one rfl rfl) ⟨_, rfl, ⟨_, rfl⟩, rfl⟩ | exact r_less (ih1 (k1 + 1) (by omega) (by omega)) rfl rfl | (exfalso; omega) | (exfalso; simp_all; done))
    case neg =>
      repeat' (first | (refine k_op1 ?_; (refine o_sv rfl (by decide) ?_)) | (refine k_ops ?_; (first | refine o_go (by first | exact .inl rfl | exact .inr ⟨_, _, _, rfl, rfl, rfl⟩) ?_ | refine o_nil ?_)) | (refine k_run ?_; (first | refine r_seq ?_ | refine r_region ?_ | refine r_skip ?_ | refine r_block ?_ | refine r_if rfl (fun _ => ?_) (fun _ => ?_) | refine r_exit rfl ?_)))
      all_goals try (first | exact r_ret Tryz.func141 _ (res_one rfl rfl) ⟨_, rfl, ⟨_, rfl⟩, rfl⟩ | (exfalso; omega) | (exfalso; simp_all; done))

theorem bare_s (hh : List Int) (rr : List Str) (h1 : hh.length ≤ 1000000) (h2 : rr.length = hh.length) : NF Tryz.prog 142 [.d (ints hh), .d (strs rr)] IsB := by
  refine nf_of fun H => ?_
  refine spec_of Tryz.func142 (by kernel_rfl) rfl (by simp) ?_
  dsimp only [Tryz.f142]
  repeat' (first | (refine k_op1 ?_; (first | refine o_sv rfl (by decide) ?_ | (refine k_blt ?_; (refine o_val (v_lenm rfl) rfl rfl (by decide) ?_)))) | (refine k_ops ?_; (first | refine o_go (by first | exact .inl rfl | exact .inr ⟨_, _, _, rfl, rfl, rfl⟩) ?_ | refine o_nil ?_)) | (refine k_run ?_; (first | refine r_seq ?_ | refine r_region ?_ | refine r_block ?_)))
  all_goals try (first | exact r_ret Tryz.func142 _ (res_one rfl rfl) ⟨_, rfl, ⟨_, rfl⟩, rfl⟩ | (exfalso; omega) | (exfalso; simp_all; done))
  all_goals
    refine r_loop ?_
    refine r_less (r_inv (fun k1 : Nat => ⟨24, [(0, PV.lift 1 (PV.d (ints hh))), (1, PV.lift 1 (PV.d (strs rr))), (7, I IntKind.i64 ↑hh.length), (8, I .i64 (k1 : Nat))], [], H⟩) (fun k1 : Nat => k1 ≤ hh.length) (fun k1 : Nat => hh.length - k1) ?_ 0 (Nat.zero_le _)) rfl rfl
    intro k1 hk1 ih1
    by_cases hlt1 : k1 < hh.length
    case pos =>
      obtain ⟨x1, hx1⟩ : ∃ x, hh[k1]? = some x := ⟨_, List.getElem?_eq_getElem (by omega)⟩
      obtain ⟨y1, hy1⟩ : ∃ x, rr[k1]? = some x := ⟨_, List.getElem?_eq_getElem (by omega)⟩
      repeat' (first | (refine k_op1 ?_; (first | refine o_sv rfl (by decide) ?_ | (refine k_load ?_; (refine o_val (v_loade rfl rfl rfl) rfl rfl (by decide) ?_)) | (refine k_index ?_; (first | refine o_val (v_index rfl (by omega) (idx hx1) rfl) rfl rfl (by decide) ?_ | refine o_val (v_index rfl (by omega) (idx hy1) rfl) rfl rfl (by decide) ?_)) | (refine k_bin ?_; (refine o_val (v_add (wi64 (by omega) (by omega))) rfl rfl (by decide) ?_)))) | (refine k_ops ?_; (first | refine o_go (by first | exact .inl rfl | exact .inr ⟨_, _, _, rfl, rfl, rfl⟩) ?_ | refine o_nil ?_ | refine o_no rfl rfl (by decide) ?_ | refine o_casen rfl rfl (fun _ => ?_) (fun _ => ?_))) | (refine k_run ?_; (first | refine r_seq ?_ | refine r_region ?_ | refine r_true rfl ?_ | refine r_skip ?_ | refine r_block ?_ | refine r_inBlock ?_ | refine r_if rfl (fun _ => ?_) (fun _ => ?_) | refine r_ifn rfl (fun _ => ?_) (fun _ => ?_) | refine r_exit rfl ?_)))
      all_goals try (first | exact r_ret Tryz.func142 _ (res_one rfl rfl) ⟨_, rfl, ⟨_, rfl⟩, rfl⟩ | exact r_less (ih1 (k1 + 1) (by omega) (by omega)) rfl rfl | (exfalso; omega) | (exfalso; simp_all; done))
    case neg =>
      repeat' (first | (refine k_op1 ?_; (refine o_sv rfl (by decide) ?_)) | (refine k_ops ?_; (first | refine o_go (by first | exact .inl rfl | exact .inr ⟨_, _, _, rfl, rfl, rfl⟩) ?_ | refine o_nil ?_)) | (refine k_run ?_; (first | refine r_seq ?_ | refine r_region ?_ | refine r_skip ?_ | refine r_block ?_ | refine r_if rfl (fun _ => ?_) (fun _ => ?_) | refine r_exit rfl ?_)))
      all_goals try (first | exact r_ret Tryz.func142 _ (res_one rfl rfl) ⟨_, rfl, ⟨_, rfl⟩, rfl⟩ | (exfalso; omega) | (exfalso; simp_all; done))

theorem valid1_s (s : Str) (hs : s.size ≤ 1000000) : NF Tryz.prog 160 [S s] IsB := by
  refine nf_of fun H => ?_
  refine spec_of Tryz.func160 (by kernel_rfl) rfl (by simp) ?_
  dsimp only [Tryz.f160]
  repeat' (first | (refine k_op1 ?_; (first | refine o_sv rfl (by decide) ?_ | (refine k_blt ?_; (refine o_val (v_lenm rfl) rfl rfl (by decide) ?_)) | (refine k_call ?_; ((refine o_nf (units_s _ hs) rfl (by decide) (fun p hp => ?_); obtain ⟨us, hus, rfl⟩ := hp))))) | (refine k_ops ?_; (first | refine o_go (by first | exact .inl rfl | exact .inr ⟨_, _, _, rfl, rfl, rfl⟩) ?_ | refine o_nil ?_)) | (refine k_run ?_; (first | refine r_seq ?_ | refine r_region ?_ | refine r_block ?_)))
  all_goals try (first | exact r_ret Tryz.func160 _ (res_one rfl rfl) ⟨_, rfl, ⟨_, rfl⟩, rfl⟩ | (exfalso; omega) | (exfalso; simp_all; done))
  all_goals
    refine r_loop ?_
    refine r_less (r_inv (fun k1 : Nat => ⟨16, [(6, PV.d (D.slice (List.map RUnit.cs us))), (7, I IntKind.i64 ↑us.length), (8, I .i64 (k1 : Nat))], [], H⟩) (fun k1 : Nat => k1 ≤ us.length) (fun k1 : Nat => us.length - k1) ?_ 0 (Nat.zero_le _)) rfl rfl
    intro k1 hk1 ih1
    by_cases hlt1 : k1 < us.length
    case pos =>
      obtain ⟨x1, hx1⟩ : ∃ x, us[k1]? = some x := ⟨_, List.getElem?_eq_getElem (by first | omega | (simp; omega))⟩
      repeat' (first | (refine k_op1 ?_; (first | refine o_sv rfl (by decide) ?_ | (refine k_load ?_; (first | refine o_val (v_load rfl rfl rfl rfl) rfl rfl (by decide) ?_ | refine o_val (v_loadea rfl rfl) rfl rfl (by decide) ?_)) | (refine k_field ?_; (refine o_val (v_field rfl rfl) rfl rfl (by decide) ?_)) | (refine k_index ?_; (refine o_val (v_index rfl (by omega) (idx hx1) rfl) rfl rfl (by decide) ?_)) | (refine k_bin ?_; (refine o_val (v_add (wi64 (by omega) (by omega))) rfl rfl (by decide) ?_)) | (refine k_store ?_; (refine o_store0 rfl rfl rfl rfl rfl rfl ?_)) | (refine k_alloc ?_; (refine o_does (d_alloc rfl rfl (by decide)) ?_)))) | (refine k_ops ?_; (first | refine o_go (by first | exact .inl rfl | exact .inr ⟨_, _, _, rfl, rfl, rfl⟩) ?_ | refine o_nil ?_)) | (refine k_run ?_; (first | refine r_seq ?_ | refine r_region ?_ | refine r_skip ?_ | refine r_block ?_ | refine r_inBlock ?_ | refine r_if rfl (fun _ => ?_) (fun _ => ?_) | refine r_cond rfl (fun _ => ?_) (fun _ => ?_) | refine r_exit rfl ?_)))
      all_goals try (first | exact r_ret Tryz.func160 _ (res_one rfl rfl) ⟨_, rfl, ⟨_, rfl⟩, rfl⟩ | exact r_less (ih1 (k1 + 1) (by omega) (by omega)) rfl rfl | (exfalso; omega) | (exfalso; simp_all; done))
    case neg =>
      repeat' (first | (refine k_op1 ?_; (refine o_sv rfl (by decide) ?_)) | (refine k_ops ?_; (first | refine o_go (by first | exact .inl rfl | exact .inr ⟨_, _, _, rfl, rfl, rfl⟩) ?_ | refine o_nil ?_)) | (refine k_run ?_; (first | refine r_seq ?_ | refine r_region ?_ | refine r_skip ?_ | refine r_block ?_ | refine r_if rfl (fun _ => ?_) (fun _ => ?_) | refine r_exit rfl ?_)))
      all_goals try (first | exact r_ret Tryz.func160 _ (res_one rfl rfl) ⟨_, rfl, ⟨_, rfl⟩, rfl⟩ | (exfalso; omega) | (exfalso; simp_all; done))

end Go.Proofs.YtonhfccmeammbaaGreatDoor
namespace Go.Proofs.YtonhfccmeammbaaGreatDoor
open Go.Ab
set_option maxHeartbeats 2000000
attribute [local irreducible] Run Ops Op1 Does Val Tr PureF Eff1 NF Rel
theorem drop_cons {α : Type} {l : List α} {k : Nat} {x : α} (h : l[k]? = some x) : l.drop k = x :: l.drop (k + 1) := by
  obtain ⟨h1, h2⟩ := List.getElem?_eq_some_iff.1 h
  rw [List.drop_eq_getElem_cons h1, h2]
def textAtFrom : List Text → Nat → Int → Int
  | [], _, _ => -1
  | t :: r, k, i => if t.b ≤ i ∧ i < t.e then k else textAtFrom r (k + 1) i
def cmpKeys : List Pair → List Pair → Int
  | x :: xs, y :: ys => if x.name ≠ y.name then cmpStr x.name y.name else if x.value ≠ y.value then cmpStr x.value y.value else cmpKeys xs ys
  | a, b => if (a.length : Int) ≠ b.length then signOf (decide ((a.length : Int) < b.length)) else 0
theorem cmpKeys_end {a b : List Pair} {k : Nat} (h : ¬ (k < a.length ∧ k < b.length)) (hk : k ≤ a.length := by omega) (hk' : k ≤ b.length := by omega) : cmpKeys (a.drop k) (b.drop k) = if (a.length : Int) ≠ b.length then signOf (decide ((a.length : Int) < b.length)) else 0 := by
  have key : ∀ x y : List Pair, (x = [] ∨ y = []) → cmpKeys x y = if (x.length : Int) ≠ y.length then signOf (decide ((x.length : Int) < y.length)) else 0 := by
    intro x y hxy
    cases x <;> cases y <;> simp_all [cmpKeys]
  rw [key _ _ (by
    rcases Nat.lt_or_ge k a.length with h1 | h1
    · exact .inr (List.drop_eq_nil_of_le (by omega))
    · exact .inl (List.drop_eq_nil_of_le (by omega)))]
  simp only [List.length_drop]
  have e1 : ((a.length - k : Nat) : Int) = a.length - k := by omega
  have e2 : ((b.length - k : Nat) : Int) = b.length - k := by omega
  rw [e1, e2]
  have e3 : ((a.length : Int) - k ≠ b.length - k) ↔ ((a.length : Int) ≠ b.length) := by omega
  have e4 : ((a.length : Int) - k < b.length - k) ↔ ((a.length : Int) < b.length) := by omega
  simp only [e3, e4]
def cmpReg (a b : Region) : Int := if a.b ≠ b.b then signOf (decide (a.b < b.b)) else if a.e ≠ b.e then signOf (decide (b.e < a.e)) else if a.type ≠ b.type then cmpStr a.type b.type else cmpKeys a.keys b.keys

theorem validValue_s (s : Str) (hs : s.size ≤ 1000000) : NF Tryz.prog 166 [S s] IsI := by
  refine nf_of fun H => ?_
  refine spec_of Tryz.func166 (by kernel_rfl) rfl (by simp) ?_
  dsimp only [Tryz.f166]
  have hl : s.data.toList.length = s.size := by simp
  repeat' (first | (refine k_op1 ?_; (first | refine o_sv rfl (by decide) ?_ | (refine k_blt ?_; (first | refine o_val (v_lenm rfl) rfl rfl (by decide) ?_ | refine o_val (v_lens rfl) rfl rfl (by decide) ?_)) | (refine k_call ?_; ((refine o_nf (valid1_s _ hs) rfl (by decide) (fun p hp => ?_); obtain ⟨_, rfl⟩ := hp))) | (refine k_conv ?_; (refine o_val (v_bytes rfl rfl rfl) rfl rfl (by decide) ?_)))) | (refine k_ops ?_; (first | refine o_go (by first | exact .inl rfl | exact .inr ⟨_, _, _, rfl, rfl, rfl⟩) ?_ | refine o_nil ?_)) | (refine k_run ?_; (first | refine r_seq ?_ | refine r_region ?_ | refine r_skip ?_ | refine r_block ?_ | refine r_if rfl (fun _ => ?_) (fun _ => ?_) | refine r_cond rfl (fun _ => ?_) (fun _ => ?_))))
  all_goals try (first | exact r_ret Tryz.func166 _ (res_one rfl rfl) ⟨_, rfl, ⟨_, rfl⟩, rfl⟩ | (exfalso; omega) | (exfalso; simp_all; done))
  all_goals
    refine r_loop ?_
    refine r_less (r_inv (fun k1 : Nat => ⟨25, [(12, PV.d (bytesD s.data.toList)), (13, I IntKind.i64 ↑s.data.toList.length), (14, I .i64 (k1 : Nat))], [], H⟩) (fun k1 : Nat => k1 ≤ s.data.toList.length) (fun k1 : Nat => s.data.toList.length - k1) ?_ 0 (Nat.zero_le _)) rfl rfl
    intro k1 hk1 ih1
    by_cases hlt1 : k1 < s.data.toList.length
    case pos =>
      obtain ⟨x1, hx1⟩ : ∃ x, s.data.toList[k1]? = some x := ⟨_, List.getElem?_eq_getElem (by omega)⟩
      repeat' (first | (refine k_op1 ?_; (first | refine o_sv rfl (by decide) ?_ | (refine k_load ?_; (refine o_val (v_loade rfl rfl rfl) rfl rfl (by decide) ?_)) | (refine k_index ?_; (refine o_val (v_index rfl (by omega) (idx hx1) rfl) rfl rfl (by decide) ?_)) | (refine k_bin ?_; (refine o_val (v_add (wi64 (by omega) (by omega))) rfl rfl (by decide) ?_)))) | (refine k_ops ?_; (first | refine o_go (by first | exact .inl rfl | exact .inr ⟨_, _, _, rfl, rfl, rfl⟩) ?_ | refine o_nil ?_ | refine o_no rfl rfl (by decide) ?_ | refine o_casep rfl rfl (fun _ => ?_) (fun _ => ?_))) | (refine k_run ?_; (first | refine r_seq ?_ | refine r_region ?_ | refine r_true rfl ?_ | refine r_skip ?_ | refine r_block ?_ | refine r_inBlock ?_ | refine r_if rfl (fun _ => ?_) (fun _ => ?_) | refine r_exit rfl ?_)))
      all_goals try (first | exact r_ret Tryz.func166 _ (res_one rfl rfl) ⟨_, rfl, ⟨_, rfl⟩, rfl⟩ | exact r_less (ih1 (k1 + 1) (by omega) (by omega)) rfl rfl | (exfalso; omega) | (exfalso; simp_all; done))
    case neg =>
      repeat' (first | (refine k_op1 ?_; (refine o_sv rfl (by decide) ?_)) | (refine k_ops ?_; (first | refine o_go (by first | exact .inl rfl | exact .inr ⟨_, _, _, rfl, rfl, rfl⟩) ?_ | refine o_nil ?_)) | (refine k_run ?_; (first | refine r_seq ?_ | refine r_region ?_ | refine r_skip ?_ | refine r_block ?_ | refine r_if rfl (fun _ => ?_) (fun _ => ?_) | refine r_exit rfl ?_)))
      all_goals try (first | exact r_ret Tryz.func166 _ (res_one rfl rfl) ⟨_, rfl, ⟨_, rfl⟩, rfl⟩ | (exfalso; omega) | (exfalso; simp_all; done))

theorem parse5_s (s : Str) (hs : s.size ≤ 1000000) (hv : NF Tryz.prog 166 [S s] IsI) : NF Tryz.prog 165 [S s] IsDI := by
  refine nf_of fun H => ?_
  refine spec_of Tryz.func165 (by kernel_rfl) rfl (by simp) ?_
  dsimp only [Tryz.f165]
  repeat' (first | (refine k_op1 ?_; (first | refine o_nil_row (d := 6) rfl rfl rfl (by decide) ?_ | refine o_sv rfl (by decide) ?_ | (refine k_sindex ?_; (refine o_val (v_sindex rfl (by omega) (sbyte (by omega) (by omega)).choose_spec) rfl rfl (by decide) ?_)) | (refine k_bin ?_; (refine o_val (v_sub (wi64 (by omega) (by omega))) rfl rfl (by decide) ?_)) | (refine k_blt ?_; (refine o_val (v_lens rfl) rfl rfl (by decide) ?_)) | (refine k_call ?_; ((refine o_nf hv rfl (by decide) (fun p hp => ?_); obtain ⟨_, rfl⟩ := hp))))) | (refine k_ops ?_; (first | refine o_go (by first | exact .inl rfl | exact .inr ⟨_, _, _, rfl, rfl, rfl⟩) ?_ | refine o_nil ?_ | refine o_no rfl rfl (by decide) ?_ | refine o_casep rfl rfl (fun _ => ?_) (fun _ => ?_) | refine o_casen rfl rfl (fun _ => ?_) (fun _ => ?_))) | (refine k_run ?_; (first | refine r_seq ?_ | refine r_region ?_ | refine r_true rfl ?_ | refine r_skip ?_ | refine r_block ?_ | refine r_ifn rfl (fun _ => ?_) (fun _ => ?_))))
  all_goals try (first | exact r_ret Tryz.func165 _ (res_two rfl rfl rfl) ⟨_, rfl, ⟨_, _, rfl⟩, rfl⟩ | (exfalso; omega) | (exfalso; simp_all; done))
  all_goals
    refine r_loop ?_
    refine r_less (r_inv (fun q : Nat × Int × List Str => ⟨69, [(0, PV.lift 1 (S s)), (5, I IntKind.i64 ↑(ByteArray.size s)), (6, PV.ref (0, 6)), (7, I .i64 q.2.1), (8, I .i64 (q.1 : Nat))], [(6, .row 9 1 (q.2.2.map fun x => [Dstr x]))], H⟩) (fun q : Nat × Int × List Str => 1 ≤ q.1 ∧ q.1 ≤ s.size ∧ 1 ≤ q.2.1 ∧ q.2.1 ≤ q.1 ∧ q.2.2.length < q.1) (fun q : Nat × Int × List Str => s.size - q.1) ?_ ⟨1, _, []⟩ (by simp; omega)) rfl rfl
    intro ⟨k1, m1_7, q1⟩ hk1 ih1
    simp only at hk1 ih1 ⊢
    by_cases hlt1 : k1 < s.size
    case pos =>
      repeat' (first | (refine k_op1 ?_; (first | refine o_sv rfl (by decide) ?_ | (refine k_sindex ?_; (refine o_val (v_sindex rfl (by omega) (sbyte (by omega) (by omega)).choose_spec) rfl rfl (by decide) ?_)) | (refine k_bin ?_; (refine o_val (v_add (wi64 (by omega) (by omega))) rfl rfl (by decide) ?_)) | (refine k_slice ?_; (refine o_val (v_sslice rfl (by omega) (by omega) (by omega)) rfl rfl (by decide) ?_)) | (refine k_blt ?_; (refine o_app1 rfl rfl _ rfl rfl rfl rfl rfl rfl rfl (by decide) (by omega) ?_)) | (refine k_lit ?_; (refine o_lit rfl rfl rfl rfl rfl rfl rfl rfl (by decide) ?_)))) | (refine k_ops ?_; (first | refine o_go (by first | exact .inl rfl | exact .inr ⟨_, _, _, rfl, rfl, rfl⟩) ?_ | refine o_nil ?_)) | (refine k_run ?_; (first | refine r_seq ?_ | refine r_region ?_ | refine r_skip ?_ | refine r_block ?_ | refine r_inBlock ?_ | refine r_if rfl (fun _ => ?_) (fun _ => ?_) | refine r_ifn rfl (fun _ => ?_) (fun _ => ?_) | refine r_exit rfl ?_)))
      all_goals try (first | exact r_ret Tryz.func165 _ (res_two rfl rfl rfl) ⟨_, rfl, ⟨_, _, rfl⟩, rfl⟩ | (first | exact r_less (ih1 ⟨k1 + 1, m1_7, q1⟩ ⟨(by first | omega | (simp; omega) | (simp; done)), (by first | omega | (simp; omega) | (simp; done)), (by first | omega | (simp; omega) | (simp; done)), (by first | omega | (simp; omega) | (simp; done)), (by first | omega | (simp; omega) | (simp; done))⟩ (by first | omega | (simp; omega) | (simp; done))) rfl rfl | (refine r_ren 49 6 rfl rfl ?_; exact r_less (ih1 ⟨k1 + 1, (k1 : Int) + 1, q1 ++ [s.extract m1_7.toNat ((k1 : Nat) : Int).toNat]⟩ ⟨(by first | omega | (simp; omega) | (simp; done)), (by first | omega | (simp; omega) | (simp; done)), (by first | omega | (simp; omega) | (simp; done)), (by first | omega | (simp; omega) | (simp; done)), (by first | omega | (simp; omega) | (simp; done))⟩ (by first | omega | (simp; omega) | (simp; done))) rfl rfl)) | (exfalso; omega) | (exfalso; simp_all; done))
    case neg =>
      repeat' (first | (refine k_op1 ?_; (first | refine o_sv rfl (by decide) ?_ | (refine k_sindex ?_; (refine o_val (v_sindex rfl (by omega) (sbyte (by omega) (by omega)).choose_spec) rfl rfl (by decide) ?_)) | (refine k_bin ?_; (refine o_val (v_add (wi64 (by omega) (by omega))) rfl rfl (by decide) ?_)) | (refine k_slice ?_; (refine o_val (v_sslice rfl (by omega) (by omega) (by omega)) rfl rfl (by decide) ?_)) | (refine k_blt ?_; (refine o_app1 rfl rfl _ rfl rfl rfl rfl rfl rfl rfl (by decide) (by omega) ?_)) | (refine k_lit ?_; (refine o_lit rfl rfl rfl rfl rfl rfl rfl rfl (by decide) ?_)))) | (refine k_ops ?_; (first | refine o_go (by first | exact .inl rfl | exact .inr ⟨_, _, _, rfl, rfl, rfl⟩) ?_ | refine o_nil ?_)) | (refine k_run ?_; (first | refine r_seq ?_ | refine r_region ?_ | refine r_skip ?_ | refine r_block ?_ | refine r_inBlock ?_ | refine r_if rfl (fun _ => ?_) (fun _ => ?_) | refine r_ifn rfl (fun _ => ?_) (fun _ => ?_) | refine r_exit rfl ?_)))
      all_goals try (first | exact r_ret Tryz.func165 _ (res_two rfl rfl rfl) ⟨_, rfl, ⟨_, _, rfl⟩, rfl⟩ | (exfalso; omega) | (exfalso; simp_all; done))
      all_goals
        refine r_freeze 6 rfl ?_
        refine r_loop ?_
        refine r_less (r_inv (fun k2 : Nat => ⟨69, [(6, PV.frz (0, 6) (D.slice (List.map (fun x => [Dstr x]) q1)) (PV.ref (0, 6))), (9, I .i64 (k2 : Nat))], [(6, Blk.gone)], H⟩) (fun k2 : Nat => 1 ≤ k2 ∧ k2 ≤ q1.length + 1) (fun k2 : Nat => q1.length + 1 - k2) ?_ 1 (by omega)) rfl rfl
        intro k2 hk2 ih2
        by_cases hlt2 : k2 < q1.length
        case pos =>
          obtain ⟨x2, hx2⟩ : ∃ x, q1[k2]? = some x := ⟨_, List.getElem?_eq_getElem (by omega)⟩
          obtain ⟨y2, hy2⟩ : ∃ x, q1[((k2 : Int) - 1).toNat]? = some x := ⟨_, List.getElem?_eq_getElem (by omega)⟩
          repeat' (first | (refine k_op1 ?_; (first | refine o_sv rfl (by decide) ?_ | (refine k_bin ?_; (refine o_val (v_add (wi64 (by omega) (by omega))) rfl rfl (by decide) ?_)) | (refine k_blt ?_; (refine o_val (v_lenm rfl) rfl rfl (by decide) ?_)))) | (refine k_ops ?_; (first | refine o_go (by first | exact .inl rfl | exact .inr ⟨_, _, _, rfl, rfl, rfl⟩) ?_ | refine o_nil ?_)) | (refine k_run ?_; (first | refine r_seq ?_ | refine r_region ?_ | refine r_skip ?_ | refine r_block ?_ | refine r_tr ?_ | refine r_inBlock ?_ | refine r_if rfl (fun _ => ?_) (fun _ => ?_) | refine r_cond rfl (fun _ => ?_) (fun _ => ?_) | refine r_exit rfl ?_)) | (refine k_tr ?_; (first | (refine kt_end ?_; refine t_end mix (by kernel_rfl) ?_) | refine t_sv rfl (by first | exact rfl | exact ⟨_, rfl, rfl, rfl⟩) (by decide) ?_ | (refine kt_load ?_; (refine t_val (v_loade rfl rfl rfl) (by first | exact rfl | exact ⟨_, rfl, rfl, rfl⟩) rfl rfl (by decide) ?_)) | (refine kt_index ?_; (first | refine t_val (v_index rfl (by omega) (idx hx2) rfl) (by first | exact rfl | exact ⟨_, rfl, rfl, rfl⟩) rfl rfl (by decide) ?_ | refine t_val (v_index rfl (by omega) (idxi hy2) rfl) (by first | exact rfl | exact ⟨_, rfl, rfl, rfl⟩) rfl rfl (by decide) ?_)) | (refine kt_bin ?_; (first | refine t_val (v_sub (wi64 (by omega) (by omega))) (by first | exact rfl | exact ⟨_, rfl, rfl, rfl⟩) rfl rfl (by decide) ?_ | refine t_val v_sgeq (by first | exact rfl | exact ⟨_, rfl, rfl, rfl⟩) rfl rfl (by decide) ?_)))))
          all_goals try (first | exact r_ret Tryz.func165 _ (res_two rfl rfl rfl) ⟨_, rfl, ⟨_, _, rfl⟩, rfl⟩ | exact r_less (ih2 (k2 + 1) (by omega) (by omega)) rfl rfl | (exfalso; omega) | (exfalso; simp_all; done))
        case neg =>
          repeat' (first | (refine k_op1 ?_; (first | refine o_sv rfl (by decide) ?_ | (refine k_blt ?_; (refine o_val (v_lenm rfl) rfl rfl (by decide) ?_)))) | (refine k_ops ?_; (first | refine o_go (by first | exact .inl rfl | exact .inr ⟨_, _, _, rfl, rfl, rfl⟩) ?_ | refine o_nil ?_)) | (refine k_run ?_; (first | refine r_seq ?_ | refine r_region ?_ | refine r_skip ?_ | refine r_block ?_ | refine r_tr ?_ | refine r_if rfl (fun _ => ?_) (fun _ => ?_) | refine r_exit rfl ?_)) | (refine k_tr ?_; (first | refine t_sv rfl (by first | exact rfl | exact ⟨_, rfl, rfl, rfl⟩) (by decide) ?_ | (refine kt_bin ?_; (refine t_val (v_sub (wi64 (by omega) (by omega))) (by first | exact rfl | exact ⟨_, rfl, rfl, rfl⟩) rfl rfl (by decide) ?_)))))
          all_goals try (first | exact r_ret Tryz.func165 _ (res_two rfl rfl rfl) ⟨_, rfl, ⟨_, _, rfl⟩, rfl⟩ | (exfalso; omega) | (exfalso; simp_all; done))

end Go.Proofs.YtonhfccmeammbaaGreatDoor
namespace Go.Proofs.YtonhfccmeammbaaGreatDoor
open Go.Ab
set_option maxHeartbeats 2000000
attribute [local irreducible] Run Ops Op1 Does Val Tr PureF Eff1 NF Rel

theorem value_s (a : Attr) (s : Str) (hs : s.size ≤ 1000000) : NF Tryz.prog 139 [.d (.agg a.cs), S s] IsI := by
  refine nf_of fun H => ?_
  refine spec_of Tryz.func139 (by kernel_rfl) rfl (by simp) ?_
  dsimp only [Tryz.f139]
  repeat' (first | (refine k_op1 ?_; (first | refine o_sv rfl (by decide) ?_ | (refine k_load ?_; (refine o_val (v_load rfl rfl rfl rfl) rfl rfl (by decide) ?_)) | (refine k_field ?_; (refine o_val (v_field rfl rfl) rfl rfl (by decide) ?_)) | (refine k_call ?_; (first | (refine o_nf (validValue_s s hs) rfl (by decide) (fun p hp => ?_); obtain ⟨_, rfl⟩ := hp) | (refine o_nf (parse5_s s hs (validValue_s s hs)) rfl (by decide) (fun p hp => ?_); obtain ⟨_, _, rfl⟩ := hp))) | (refine k_box ?_; (refine o_does (d_box_d rfl rfl (by decide)) ?_)))) | (refine k_ops ?_; (first | refine o_go (by first | exact .inl rfl | exact .inr ⟨_, _, _, rfl, rfl, rfl⟩) ?_ | refine o_nil ?_)) | (refine k_run ?_; (first | refine r_seq ?_ | refine r_region ?_ | refine r_skip ?_ | refine r_cond rfl (fun _ => ?_) (fun _ => ?_))))
  all_goals try (first | exact r_ret Tryz.func139 _ (res_one rfl rfl) ⟨_, rfl, ⟨_, rfl⟩, rfl⟩ | (exfalso; omega) | (exfalso; simp_all; done))

theorem pairs_s (l : List Pair) (hl : SmP l) : NF Tryz.prog 140 [.d (.slice (l.map Pair.cs))] IsI := by
  refine nf_of fun H => ?_
  refine spec_of Tryz.func140 (by kernel_rfl) rfl (by simp) ?_
  dsimp only [Tryz.f140]
  have hn := hl.1
  repeat' (first | (refine k_op1 ?_; (first | refine o_sv rfl (by decide) ?_ | (refine k_blt ?_; (refine o_val (v_lenm rfl) rfl rfl (by decide) ?_)))) | (refine k_ops ?_; (first | refine o_go (by first | exact .inl rfl | exact .inr ⟨_, _, _, rfl, rfl, rfl⟩) ?_ | refine o_nil ?_)) | (refine k_run ?_; (first | refine r_seq ?_ | refine r_region ?_ | refine r_skip ?_ | refine r_block ?_ | refine r_if rfl (fun _ => ?_) (fun _ => ?_))))
  all_goals try (first | exact r_ret Tryz.func140 _ (res_one rfl rfl) ⟨_, rfl, ⟨_, rfl⟩, rfl⟩ | (exfalso; omega) | (exfalso; simp_all; done))
  all_goals
    refine r_loop ?_
    refine r_less (r_inv (fun k1 : Nat => ⟨42, [(0, PV.lift 1 (PV.d (D.slice (List.map Pair.cs l)))), (9, PV.lift 1 (PV.d (D.slice (List.map Pair.cs l)))), (10, I IntKind.i64 ↑l.length), (11, I .i64 (k1 : Nat))], [], H⟩) (fun k1 : Nat => k1 ≤ l.length) (fun k1 : Nat => l.length - k1) ?_ 0 (Nat.zero_le _)) rfl rfl
    intro k1 hk1 ih1
    by_cases hlt1 : k1 < l.length
    case pos =>
      obtain ⟨x1, hx1⟩ : ∃ x, l[k1]? = some x := ⟨_, List.getElem?_eq_getElem (by omega)⟩
      have hp1 := hl.2 x1 (List.mem_of_getElem? hx1)
      by_cases h0 : 0 < k1
      obtain ⟨y1, hy1⟩ : ∃ x, l[((k1 : Int) - 1).toNat]? = some x := ⟨_, List.getElem?_eq_getElem (by omega)⟩
      repeat' (first | (refine k_op1 ?_; (first | refine o_sv rfl (by decide) ?_ | (refine k_load ?_; (first | refine o_val (v_load rfl rfl rfl rfl) rfl rfl (by decide) ?_ | refine o_val (v_loadea rfl rfl) rfl rfl (by decide) ?_)) | (refine k_field ?_; (refine o_val (v_field rfl rfl) rfl rfl (by decide) ?_)) | (refine k_index ?_; (refine o_val (v_index rfl (by omega) (idx hx1) rfl) rfl rfl (by decide) ?_)) | (refine k_bin ?_; (refine o_val (v_add (wi64 (by omega) (by omega))) rfl rfl (by decide) ?_)) | (refine k_call ?_; (first | (refine o_nf (validName_s _ (by omega)) rfl (by decide) (fun p hp => ?_); obtain ⟨_, rfl⟩ := hp) | (refine o_nf (validValue_s _ (by omega)) rfl (by decide) (fun p hp => ?_); obtain ⟨_, rfl⟩ := hp))) | (refine k_store ?_; (refine o_store0 rfl rfl rfl rfl rfl rfl ?_)) | (refine k_alloc ?_; (refine o_does (d_alloc rfl rfl (by decide)) ?_)))) | (refine k_ops ?_; (first | refine o_go (by first | exact .inl rfl | exact .inr ⟨_, _, _, rfl, rfl, rfl⟩) ?_ | refine o_nil ?_)) | (refine k_run ?_; (first | refine r_seq ?_ | refine r_region ?_ | refine r_false rfl ?_ | refine r_skip ?_ | refine r_block ?_ | refine r_tr ?_ | refine r_inBlock ?_ | refine r_if rfl (fun _ => ?_) (fun _ => ?_) | refine r_ifn rfl (fun _ => ?_) (fun _ => ?_) | refine r_cond rfl (fun _ => ?_) (fun _ => ?_) | refine r_exit rfl ?_)) | (refine k_tr ?_; (first | (refine kt_end ?_; refine t_end mix (by kernel_rfl) ?_) | refine t_pass rfl rfl (by decide) ?_ | refine t_sv rfl (by first | exact rfl | exact ⟨_, rfl, rfl, rfl⟩) (by decide) ?_ | (refine kt_load ?_; (first | refine t_val (v_load rfl rfl rfl rfl) (by first | exact rfl | exact ⟨_, rfl, rfl, rfl⟩) rfl rfl (by decide) ?_ | refine t_val (v_loade rfl rfl rfl) (by first | exact rfl | exact ⟨_, rfl, rfl, rfl⟩) rfl rfl (by decide) ?_)) | (refine kt_field ?_; (first | refine t_val (v_field rfl rfl) (by first | exact rfl | exact ⟨_, rfl, rfl, rfl⟩) rfl rfl (by decide) ?_ | refine t_val (v_fielde rfl rfl) (by first | exact rfl | exact ⟨_, rfl, rfl, rfl⟩) rfl rfl (by decide) ?_)) | (refine kt_index ?_; (refine t_val (v_index rfl (by omega) (idxi hy1) rfl) (by first | exact rfl | exact ⟨_, rfl, rfl, rfl⟩) rfl rfl (by decide) ?_)) | (refine kt_bin ?_; (first | refine t_val (v_sub (wi64 (by omega) (by omega))) (by first | exact rfl | exact ⟨_, rfl, rfl, rfl⟩) rfl rfl (by decide) ?_ | refine t_val v_sgeq (by first | exact rfl | exact ⟨_, rfl, rfl, rfl⟩) rfl rfl (by decide) ?_)) | (refine t_either rfl rfl (fun hg => ?_) (fun hg => ?_) <;> simp only [hg] <;> (try simp only [decide_eq_true_eq, decide_eq_false_iff_not, Bool.not_eq_true', Bool.not_eq_false'] at hg)))))
      all_goals try (first | exact r_ret Tryz.func140 _ (res_one rfl rfl) ⟨_, rfl, ⟨_, rfl⟩, rfl⟩ | exact r_less (ih1 (k1 + 1) (by omega) (by omega)) rfl rfl | (exfalso; omega) | (exfalso; simp_all; done))
    case neg =>
      repeat' (first | (refine k_op1 ?_; (refine o_sv rfl (by decide) ?_)) | (refine k_ops ?_; (first | refine o_go (by first | exact .inl rfl | exact .inr ⟨_, _, _, rfl, rfl, rfl⟩) ?_ | refine o_nil ?_)) | (refine k_run ?_; (first | refine r_seq ?_ | refine r_region ?_ | refine r_skip ?_ | refine r_block ?_ | refine r_if rfl (fun _ => ?_) (fun _ => ?_) | refine r_exit rfl ?_)))
      all_goals try (first | exact r_ret Tryz.func140 _ (res_one rfl rfl) ⟨_, rfl, ⟨_, rfl⟩, rfl⟩ | (exfalso; omega) | (exfalso; simp_all; done))

theorem findText_s (c : Corpus) (s : Str) (hc : Small c) : NF Tryz.prog 55 [c.d, S s] IsI := by
  refine nf_of fun H => ?_
  refine spec_of Tryz.func55 (by kernel_rfl) rfl (by simp) ?_
  dsimp only [Tryz.f55]
  have := hc.ntexts
  repeat' (first | (refine k_op1 ?_; (first | refine o_sv rfl (by decide) ?_ | (refine k_load ?_; (refine o_val (v_load rfl rfl rfl rfl) rfl rfl (by decide) ?_)) | (refine k_field ?_; (refine o_val (v_field rfl rfl) rfl rfl (by decide) ?_)) | (refine k_blt ?_; (refine o_val (v_lenm rfl) rfl rfl (by decide) ?_)) | (refine k_box ?_; (refine o_does (d_box_d rfl rfl (by decide)) ?_)))) | (refine k_ops ?_; (first | refine o_go (by first | exact .inl rfl | exact .inr ⟨_, _, _, rfl, rfl, rfl⟩) ?_ | refine o_nil ?_)) | (refine k_run ?_; (first | refine r_seq ?_ | refine r_region ?_ | refine r_block ?_)))
  all_goals try (first | exact r_ret Tryz.func55 _ (res_one rfl rfl) ⟨_, rfl, ⟨_, rfl⟩, rfl⟩ | (exfalso; omega) | (exfalso; simp_all; done))
  all_goals
    refine r_loop ?_
    refine r_less (r_inv (fun k1 : Nat => ⟨21, [(1, PV.lift 1 (S s)), (8, PV.d (D.slice (List.map Text.cs c.texts))), (9, I IntKind.i64 ↑c.texts.length), (10, I .i64 (k1 : Nat))], [], H⟩) (fun k1 : Nat => k1 ≤ c.texts.length) (fun k1 : Nat => c.texts.length - k1) ?_ 0 (Nat.zero_le _)) rfl rfl
    intro k1 hk1 ih1
    by_cases hlt1 : k1 < c.texts.length
    case pos =>
      obtain ⟨x1, hx1⟩ : ∃ x, c.texts[k1]? = some x := ⟨_, List.getElem?_eq_getElem (by first | omega | (simp; omega))⟩
      repeat' (first | (refine k_op1 ?_; (first | refine o_sv rfl (by decide) ?_ | (refine k_load ?_; (first | refine o_val (v_load rfl rfl rfl rfl) rfl rfl (by decide) ?_ | refine o_val (v_loadea rfl rfl) rfl rfl (by decide) ?_)) | (refine k_field ?_; (refine o_val (v_field rfl rfl) rfl rfl (by decide) ?_)) | (refine k_index ?_; (refine o_val (v_index rfl (by omega) (idx hx1) rfl) rfl rfl (by decide) ?_)) | (refine k_bin ?_; (refine o_val (v_add (wi64 (by omega) (by omega))) rfl rfl (by decide) ?_)) | (refine k_store ?_; (refine o_store0 rfl rfl rfl rfl rfl rfl ?_)) | (refine k_alloc ?_; (refine o_does (d_alloc rfl rfl (by decide)) ?_)))) | (refine k_ops ?_; (first | refine o_go (by first | exact .inl rfl | exact .inr ⟨_, _, _, rfl, rfl, rfl⟩) ?_ | refine o_nil ?_)) | (refine k_run ?_; (first | refine r_seq ?_ | refine r_region ?_ | refine r_skip ?_ | refine r_block ?_ | refine r_inBlock ?_ | refine r_if rfl (fun _ => ?_) (fun _ => ?_) | refine r_exit rfl ?_)))
      all_goals try (first | exact r_ret Tryz.func55 _ (res_one rfl rfl) ⟨_, rfl, ⟨_, rfl⟩, rfl⟩ | exact r_less (ih1 (k1 + 1) (by omega) (by omega)) rfl rfl | (exfalso; omega) | (exfalso; simp_all; done))
    case neg =>
      repeat' (first | (refine k_op1 ?_; (refine o_sv rfl (by decide) ?_)) | (refine k_ops ?_; (first | refine o_go (by first | exact .inl rfl | exact .inr ⟨_, _, _, rfl, rfl, rfl⟩) ?_ | refine o_nil ?_)) | (refine k_run ?_; (first | refine r_seq ?_ | refine r_region ?_ | refine r_skip ?_ | refine r_block ?_ | refine r_if rfl (fun _ => ?_) (fun _ => ?_) | refine r_exit rfl ?_)))
      all_goals try (first | exact r_ret Tryz.func55 _ (res_one rfl rfl) ⟨_, rfl, ⟨_, rfl⟩, rfl⟩ | (exfalso; omega) | (exfalso; simp_all; done))

end Go.Proofs.YtonhfccmeammbaaGreatDoor
namespace Go.Proofs.YtonhfccmeammbaaGreatDoor
open Go.Ab
set_option maxHeartbeats 20000000
attribute [local irreducible] Run Ops Op1 Does Val Tr PureF Eff1 NF Rel

theorem textAt_n (c : Corpus) (i : Int) (hc : Small c) : NF Tryz.prog 143 [c.d, I .i64 i] (fun p => p = I .i64 (textAtFrom c.texts 0 i)) := by
  refine nf_of fun H => ?_
  refine spec_of Tryz.func143 (by kernel_rfl) rfl (by simp) ?_
  dsimp only [Tryz.f143]
  have := hc.ntexts
  repeat' (first | (refine k_op1 ?_; (first | refine o_sv rfl (by decide) ?_ | (refine k_load ?_; (refine o_val (v_load rfl rfl rfl rfl) rfl rfl (by decide) ?_)) | (refine k_field ?_; (refine o_val (v_field rfl rfl) rfl rfl (by decide) ?_)) | (refine k_blt ?_; (refine o_val (v_lenm rfl) rfl rfl (by decide) ?_)) | (refine k_box ?_; (refine o_does (d_box_d rfl rfl (by decide)) ?_)))) | (refine k_ops ?_; (first | refine o_go (by first | exact .inl rfl | exact .inr ⟨_, _, _, rfl, rfl, rfl⟩) ?_ | refine o_nil ?_)) | (refine k_run ?_; (first | refine r_seq ?_ | refine r_region ?_ | refine r_block ?_)))
  all_goals try (first | exact r_ret Tryz.func143 _ (res_one rfl rfl) ⟨_, rfl, (by rw [← hk1.2]; first | (rw [drop_cons hx1, textAtFrom, if_pos (by omega)]; done) | (rw [List.drop_eq_nil_of_le (by omega)]; rfl)), rfl⟩ | (exfalso; omega) | (exfalso; simp_all; done))
  all_goals
    refine r_loop ?_
    refine r_less (r_inv (fun k1 : Nat => ⟨27, [(1, PV.lift 1 (I IntKind.i64 i)), (8, PV.d (D.slice (List.map Text.cs c.texts))), (9, I IntKind.i64 (↑c.texts.length : Int)), (10, I .i64 (k1 : Nat))], [], H⟩) (fun k1 : Nat => k1 ≤ c.texts.length ∧ textAtFrom (c.texts.drop k1) k1 i = textAtFrom c.texts 0 i) (fun k1 : Nat => c.texts.length - k1) ?_ 0 ⟨Nat.zero_le _, rfl⟩) rfl rfl
    intro k1 hk1 ih1
    by_cases hlt1 : k1 < c.texts.length
    case pos =>
      obtain ⟨x1, hx1⟩ : ∃ x, c.texts[k1]? = some x := ⟨_, List.getElem?_eq_getElem (by first | omega | (simp; omega))⟩
      repeat' (first | (refine k_op1 ?_; (first | refine o_sv rfl (by decide) ?_ | (refine k_load ?_; (first | refine o_val (v_load rfl rfl rfl rfl) rfl rfl (by decide) ?_ | refine o_val (v_loadea rfl rfl) rfl rfl (by decide) ?_)) | (refine k_field ?_; (refine o_val (v_field rfl rfl) rfl rfl (by decide) ?_)) | (refine k_index ?_; (refine o_val (v_index rfl (by omega) (idx hx1) rfl) rfl rfl (by decide) ?_)) | (refine k_bin ?_; (refine o_val (v_add (wi64 (by omega) (by omega))) rfl rfl (by decide) ?_)) | (refine k_store ?_; (refine o_store0 rfl rfl rfl rfl rfl rfl ?_)) | (refine k_alloc ?_; (refine o_does (d_alloc rfl rfl (by decide)) ?_)))) | (refine k_ops ?_; (first | refine o_go (by first | exact .inl rfl | exact .inr ⟨_, _, _, rfl, rfl, rfl⟩) ?_ | refine o_nil ?_ | refine o_no rfl rfl (by decide) ?_ | refine o_casep rfl rfl (fun _ => ?_) (fun _ => ?_))) | (refine k_run ?_; (first | refine r_seq ?_ | refine r_region ?_ | refine r_false rfl ?_ | refine r_skip ?_ | refine r_block ?_ | refine r_inBlock ?_ | refine r_if rfl (fun _ => ?_) (fun _ => ?_) | refine r_exit rfl ?_)))
      all_goals try (first | exact r_ret Tryz.func143 _ (res_one rfl rfl) ⟨_, rfl, (by rw [← hk1.2]; first | (rw [drop_cons hx1, textAtFrom, if_pos (by omega)]; done) | (rw [List.drop_eq_nil_of_le (by omega)]; rfl)), rfl⟩ | exact r_less (ih1 (k1 + 1) ⟨by omega, by rw [← hk1.2, drop_cons hx1, textAtFrom, if_neg (by omega)]⟩ (by omega)) rfl rfl | (exfalso; omega) | (exfalso; simp_all; done))
    case neg =>
      repeat' (first | (refine k_op1 ?_; (refine o_sv rfl (by decide) ?_)) | (refine k_ops ?_; (first | refine o_go (by first | exact .inl rfl | exact .inr ⟨_, _, _, rfl, rfl, rfl⟩) ?_ | refine o_nil ?_)) | (refine k_run ?_; (first | refine r_seq ?_ | refine r_region ?_ | refine r_skip ?_ | refine r_block ?_ | refine r_if rfl (fun _ => ?_) (fun _ => ?_) | refine r_exit rfl ?_)))
      all_goals try (first | exact r_ret Tryz.func143 _ (res_one rfl rfl) ⟨_, rfl, (by rw [← hk1.2]; first | (rw [drop_cons hx1, textAtFrom, if_pos (by omega)]; done) | (rw [List.drop_eq_nil_of_le (by omega)]; rfl)), rfl⟩ | (exfalso; omega) | (exfalso; simp_all; done))

theorem cmpReg_n (a b : Region) (ha : SmP a.keys) (hb : SmP b.keys) : NF Tryz.prog 85 [.d (.agg a.cs), .d (.agg b.cs)] (fun p => p = I .i64 (cmpReg a b)) := by
  refine nf_of fun H => ?_
  refine spec_of Tryz.func85 (by kernel_rfl) rfl (by simp) ?_
  dsimp only [Tryz.f85]
  have hla := ha.1
  have hlb := hb.1
  repeat' (first | (refine k_op1 ?_; (first | refine o_sv rfl (by decide) ?_ | (refine k_load ?_; (refine o_val (v_load rfl rfl rfl rfl) rfl rfl (by decide) ?_)) | (refine k_field ?_; (refine o_val (v_field rfl rfl) rfl rfl (by decide) ?_)) | (refine k_call ?_; (first | refine o_fn (sign_s _) rfl (by decide) ?_ | refine o_fn (compare_s _ _) rfl (by decide) ?_)) | (refine k_box ?_; (refine o_does (d_box_d rfl rfl (by decide)) ?_)))) | (refine k_ops ?_; (first | refine o_go (by first | exact .inl rfl | exact .inr ⟨_, _, _, rfl, rfl, rfl⟩) ?_ | refine o_nil ?_)) | (refine k_run ?_; (first | refine r_seq ?_ | refine r_region ?_ | refine r_skip ?_ | refine r_block ?_ | refine r_inBlock ?_ | refine r_ifn rfl (fun _ => ?_) (fun _ => ?_))))
  all_goals try (first | exact r_ret Tryz.func85 _ (res_one rfl rfl) ⟨_, rfl, (by first | (simp_all [cmpReg]; done) | (rw [hq, ← hk1.2.2, drop_cons hx1, drop_cons hy1]; (first | rw [cmpKeys, if_pos (by assumption)] | rw [cmpKeys, if_neg (by simp only [ne_eq, Decidable.not_not]; assumption), if_pos (by assumption)] | rw [cmpKeys, if_neg (by simp only [ne_eq, Decidable.not_not]; assumption), if_neg (by simp only [ne_eq, Decidable.not_not]; assumption)]); done) | (rw [hq, ← hk1.2.2, cmpKeys_end hlt1, if_pos (by assumption)]; done) | (rw [hq, ← hk1.2.2, cmpKeys_end hlt1, if_neg (by simp only [ne_eq, Decidable.not_not]; assumption)]; done)), rfl⟩ | (exfalso; omega) | (exfalso; simp_all; done))
  all_goals
    have hq : cmpReg a b = cmpKeys a.keys b.keys := by simp_all [cmpReg]
    refine r_loop ?_
    refine r_less (r_inv (fun k1 : Nat => ⟨122, [(2, PV.ptr (0, 2) 0), (3, PV.ptr (0, 3) 0), (5, I .i64 (k1 : Nat))], [(2, Blk.box (List.map PV.d a.cs)), (3, Blk.box (List.map PV.d b.cs))], H⟩) (fun k1 : Nat => k1 ≤ a.keys.length ∧ k1 ≤ b.keys.length ∧ cmpKeys (a.keys.drop k1) (b.keys.drop k1) = cmpKeys a.keys b.keys) (fun k1 : Nat => a.keys.length - k1) ?_ 0 ⟨Nat.zero_le _, Nat.zero_le _, rfl⟩) rfl rfl
    intro k1 hk1 ih1
    by_cases hlt1 : k1 < a.keys.length ∧ k1 < b.keys.length
    case pos =>
      obtain ⟨x1, hx1⟩ : ∃ x, a.keys[k1]? = some x := ⟨_, List.getElem?_eq_getElem (by omega)⟩
      obtain ⟨y1, hy1⟩ : ∃ x, b.keys[k1]? = some x := ⟨_, List.getElem?_eq_getElem (by omega)⟩
      repeat' (first | (refine k_op1 ?_; (first | refine o_sv rfl (by decide) ?_ | (refine k_load ?_; (refine o_val (v_load rfl rfl rfl rfl) rfl rfl (by decide) ?_)) | (refine k_field ?_; (refine o_val (v_field rfl rfl) rfl rfl (by decide) ?_)) | (refine k_bin ?_; (refine o_val (v_add (wi64 (by omega) (by omega))) rfl rfl (by decide) ?_)) | (refine k_blt ?_; (refine o_val (v_lenm rfl) rfl rfl (by decide) ?_)) | (refine k_call ?_; (refine o_fn (sign_s _) rfl (by decide) ?_)))) | (refine k_ops ?_; (first | refine o_go (by first | exact .inl rfl | exact .inr ⟨_, _, _, rfl, rfl, rfl⟩) ?_ | refine o_nil ?_ | refine o_no rfl rfl (by decide) ?_ | refine o_casep rfl rfl (fun _ => ?_) (fun _ => ?_))) | (refine k_run ?_; (first | refine r_seq ?_ | refine r_region ?_ | refine r_false rfl ?_ | refine r_skip ?_ | refine r_block ?_ | refine r_tr ?_ | refine r_inBlock ?_ | refine r_if rfl (fun _ => ?_) (fun _ => ?_) | refine r_ifn rfl (fun _ => ?_) (fun _ => ?_) | refine r_exit rfl ?_)) | (refine k_tr ?_; (first | (refine kt_end ?_; refine t_end mix (by kernel_rfl) ?_) | refine t_sv rfl (by first | exact rfl | exact ⟨_, rfl, rfl, rfl⟩) (by decide) ?_ | (refine kt_load ?_; (first | refine t_val (v_load rfl rfl rfl rfl) (by first | exact rfl | exact ⟨_, rfl, rfl, rfl⟩) rfl rfl (by decide) ?_ | refine t_val (v_loade rfl rfl rfl) (by first | exact rfl | exact ⟨_, rfl, rfl, rfl⟩) rfl rfl (by decide) ?_)) | (refine kt_field ?_; (first | refine t_val (v_field rfl rfl) (by first | exact rfl | exact ⟨_, rfl, rfl, rfl⟩) rfl rfl (by decide) ?_ | refine t_val (v_fielde rfl rfl) (by first | exact rfl | exact ⟨_, rfl, rfl, rfl⟩) rfl rfl (by decide) ?_)) | (refine kt_index ?_; (first | refine t_val (v_index rfl (by omega) (idx hx1) rfl) (by first | exact rfl | exact ⟨_, rfl, rfl, rfl⟩) rfl rfl (by decide) ?_ | refine t_val (v_index rfl (by omega) (idx hy1) rfl) (by first | exact rfl | exact ⟨_, rfl, rfl, rfl⟩) rfl rfl (by decide) ?_)) | (refine kt_call ?_; (refine t_fn (compare_s _ _) (by first | exact rfl | exact ⟨_, rfl, rfl, rfl⟩) rfl (by decide) ?_)))))
      all_goals try (first | exact r_ret Tryz.func85 _ (res_one rfl rfl) ⟨_, rfl, (by first | (simp_all [cmpReg]; done) | (rw [hq, ← hk1.2.2, drop_cons hx1, drop_cons hy1]; (first | rw [cmpKeys, if_pos (by assumption)] | rw [cmpKeys, if_neg (by simp only [ne_eq, Decidable.not_not]; assumption), if_pos (by assumption)] | rw [cmpKeys, if_neg (by simp only [ne_eq, Decidable.not_not]; assumption), if_neg (by simp only [ne_eq, Decidable.not_not]; assumption)]); done) | (rw [hq, ← hk1.2.2, cmpKeys_end hlt1, if_pos (by assumption)]; done) | (rw [hq, ← hk1.2.2, cmpKeys_end hlt1, if_neg (by simp only [ne_eq, Decidable.not_not]; assumption)]; done)), rfl⟩ | exact r_less (ih1 (k1 + 1) ⟨by omega, by omega, by rw [← hk1.2.2, drop_cons hx1, drop_cons hy1]; (first | rw [cmpKeys, if_pos (by assumption)] | rw [cmpKeys, if_neg (by simp only [ne_eq, Decidable.not_not]; assumption), if_pos (by assumption)] | rw [cmpKeys, if_neg (by simp only [ne_eq, Decidable.not_not]; assumption), if_neg (by simp only [ne_eq, Decidable.not_not]; assumption)])⟩ (by omega)) rfl rfl | (exfalso; omega) | (exfalso; simp_all; done))
    case neg =>
      repeat' (first | (refine k_op1 ?_; (first | refine o_sv rfl (by decide) ?_ | (refine k_load ?_; (refine o_val (v_load rfl rfl rfl rfl) rfl rfl (by decide) ?_)) | (refine k_field ?_; (refine o_val (v_field rfl rfl) rfl rfl (by decide) ?_)) | (refine k_blt ?_; (refine o_val (v_lenm rfl) rfl rfl (by decide) ?_)) | (refine k_call ?_; (refine o_fn (sign_s _) rfl (by decide) ?_)))) | (refine k_ops ?_; (first | refine o_go (by first | exact .inl rfl | exact .inr ⟨_, _, _, rfl, rfl, rfl⟩) ?_ | refine o_nil ?_ | refine o_no rfl rfl (by decide) ?_ | refine o_casep rfl rfl (fun _ => ?_) (fun _ => ?_))) | (refine k_run ?_; (first | refine r_seq ?_ | refine r_region ?_ | refine r_false rfl ?_ | refine r_skip ?_ | refine r_block ?_ | refine r_tr ?_ | refine r_if rfl (fun _ => ?_) (fun _ => ?_) | refine r_ifn rfl (fun _ => ?_) (fun _ => ?_) | refine r_exit rfl ?_)) | (refine k_tr ?_; (first | refine t_sv rfl (by first | exact rfl | exact ⟨_, rfl, rfl, rfl⟩) (by decide) ?_ | (refine kt_load ?_; (refine t_val (v_load rfl rfl rfl rfl) (by first | exact rfl | exact ⟨_, rfl, rfl, rfl⟩) rfl rfl (by decide) ?_)) | (refine kt_field ?_; (refine t_val (v_field rfl rfl) (by first | exact rfl | exact ⟨_, rfl, rfl, rfl⟩) rfl rfl (by decide) ?_)))))
      all_goals try (first | exact r_ret Tryz.func85 _ (res_one rfl rfl) ⟨_, rfl, (by first | (simp_all [cmpReg]; done) | (rw [hq, ← hk1.2.2, drop_cons hx1, drop_cons hy1]; (first | rw [cmpKeys, if_pos (by assumption)] | rw [cmpKeys, if_neg (by simp only [ne_eq, Decidable.not_not]; assumption), if_pos (by assumption)] | rw [cmpKeys, if_neg (by simp only [ne_eq, Decidable.not_not]; assumption), if_neg (by simp only [ne_eq, Decidable.not_not]; assumption)]); done) | (rw [hq, ← hk1.2.2, cmpKeys_end hlt1, if_pos (by assumption)]; done) | (rw [hq, ← hk1.2.2, cmpKeys_end hlt1, if_neg (by simp only [ne_eq, Decidable.not_not]; assumption)]; done)), rfl⟩ | (exfalso; omega) | (exfalso; simp_all; done))

theorem attributes_v (a : List Attr) (hn : a.length ≤ 1000000) (ha : ∀ x ∈ a, x.name.size ≤ 1000000) : NF Tryz.prog 113 [.d (.slice (a.map Attr.cs))] IsII := by
  refine nf_of fun H => ?_
  refine spec_of Tryz.func113 (by kernel_rfl) rfl (by simp) ?_
  dsimp only [Tryz.f113]
  repeat' (first | (refine k_op1 ?_; (first | refine o_sv rfl (by decide) ?_ | (refine k_blt ?_; (refine o_val (v_lenm rfl) rfl rfl (by decide) ?_)))) | (refine k_ops ?_; (first | refine o_go (by first | exact .inl rfl | exact .inr ⟨_, _, _, rfl, rfl, rfl⟩) ?_ | refine o_nil ?_)) | (refine k_run ?_; (first | refine r_seq ?_ | refine r_region ?_ | refine r_skip ?_ | refine r_block ?_ | refine r_if rfl (fun _ => ?_) (fun _ => ?_))))
  all_goals try (first | exact r_ret Tryz.func113 _ (res_two rfl rfl rfl) ⟨_, rfl, ⟨_, _, rfl⟩, rfl⟩ | (exfalso; omega) | (exfalso; simp_all; done))
  all_goals
    refine r_loop ?_
    refine r_less (r_inv (fun k1 : Nat => ⟨42, [(0, PV.lift 1 (PV.d (D.slice (List.map Attr.cs a)))), (14, PV.lift 1 (PV.d (D.slice (List.map Attr.cs a)))), (15, I IntKind.i64 (↑a.length : Int)), (16, I .i64 (k1 : Nat))], [], H⟩) (fun k1 : Nat => k1 ≤ a.length) (fun k1 : Nat => a.length - k1) ?_ 0 (Nat.zero_le _)) rfl rfl
    intro k1 hk1 ih1
    by_cases hlt1 : k1 < a.length
    case pos =>
      obtain ⟨x1, hx1⟩ : ∃ x, a[k1]? = some x := ⟨_, List.getElem?_eq_getElem (by omega)⟩
      have hp1 := ha x1 (List.mem_of_getElem? hx1)
      repeat' (first | (refine k_op1 ?_; (first | refine o_sv rfl (by decide) ?_ | (refine k_load ?_; (first | refine o_val (v_load rfl rfl rfl rfl) rfl rfl (by decide) ?_ | refine o_val (v_loadea rfl rfl) rfl rfl (by decide) ?_)) | (refine k_field ?_; (refine o_val (v_field rfl rfl) rfl rfl (by decide) ?_)) | (refine k_index ?_; (refine o_val (v_index rfl (by omega) (idx hx1) rfl) rfl rfl (by decide) ?_)) | (refine k_slice ?_; (refine o_val (v_slicetm rfl (by omega) (by omega) (fun _ => rfl)) rfl rfl (by decide) ?_)) | (refine k_blt ?_; (refine o_val (v_lenm rfl) rfl rfl (by decide) ?_)) | (refine k_call ?_; ((refine o_nf (validName_s _ (by omega)) rfl (by decide) (fun p hp => ?_); obtain ⟨_, rfl⟩ := hp))) | (refine k_store ?_; (refine o_store0 rfl rfl rfl rfl rfl rfl ?_)) | (refine k_alloc ?_; (refine o_does (d_alloc rfl rfl (by decide)) ?_)))) | (refine k_ops ?_; (first | refine o_go (by first | exact .inl rfl | exact .inr ⟨_, _, _, rfl, rfl, rfl⟩) ?_ | refine o_nil ?_)) | (refine k_run ?_; (first | refine r_seq ?_ | refine r_region ?_ | refine r_skip ?_ | refine r_block ?_ | refine r_if rfl (fun _ => ?_) (fun _ => ?_) | refine r_cond rfl (fun _ => ?_) (fun _ => ?_) | refine r_exit rfl ?_)))
      all_goals try (first | exact r_ret Tryz.func113 _ (res_two rfl rfl rfl) ⟨_, rfl, ⟨_, _, rfl⟩, rfl⟩ | exact r_less (ih1 (k1 + 1) (by omega) (by omega)) rfl rfl | (exfalso; omega) | (exfalso; simp_all; done))
      all_goals
        refine r_loop ?_
        refine r_less (r_inv (fun k2 : Nat => ⟨42, [(0, PV.lift 1 (PV.d (D.slice (List.map Attr.cs a)))), (4, I IntKind.i64 (↑k1 : Int)), (5, PV.ptr (0, 5) 0), (14, PV.lift 1 (PV.d (D.slice (List.map Attr.cs a)))), (15, I IntKind.i64 (↑a.length : Int)), (16, I IntKind.i64 (↑k1 : Int)), (28, PV.d (D.slice (List.map Attr.cs (List.take (↑k1 : Int).toNat a)))), (29, I IntKind.i64 (↑(List.take (↑k1 : Int).toNat a).length : Int)), (30, I .i64 (k2 : Nat))], [(5, Blk.box (splice (zeroP ({ size := 2, bytes := 24, kind := TK.struct, fields := [(0, 1), (1, 1)], zero := [Value.string { data := #[] }, Value.bool false] } : TI).zero) 0 (List.map PV.d x1.cs)))], H⟩) (fun k2 : Nat => k2 ≤ (List.take (↑k1 : Int).toNat a).length) (fun k2 : Nat => (List.take (↑k1 : Int).toNat a).length - k2) ?_ 0 (Nat.zero_le _)) rfl rfl
        intro k2 hk2 ih2
        by_cases hlt2 : k2 < (List.take (↑k1 : Int).toNat a).length
        case pos =>
          have hl2 : (List.take (↑k1 : Int).toNat a).length ≤ _ := List.length_take_le _ _
          obtain ⟨x2, hx2⟩ : ∃ x, (List.take (↑k1 : Int).toNat a)[k2]? = some x := ⟨_, List.getElem?_eq_getElem (by first | omega | (simp; omega))⟩
          repeat' (first | (refine k_op1 ?_; (first | refine o_sv rfl (by decide) ?_ | (refine k_load ?_; (first | refine o_val (v_load rfl rfl rfl rfl) rfl rfl (by decide) ?_ | refine o_val (v_loadea rfl rfl) rfl rfl (by decide) ?_)) | (refine k_field ?_; (refine o_val (v_field rfl rfl) rfl rfl (by decide) ?_)) | (refine k_index ?_; (refine o_val (v_index rfl (by omega) (idx hx2) rfl) rfl rfl (by decide) ?_)) | (refine k_bin ?_; (refine o_val (v_add (wi64 (by omega) (by omega))) rfl rfl (by decide) ?_)) | (refine k_store ?_; (refine o_store0 rfl rfl rfl rfl rfl rfl ?_)) | (refine k_alloc ?_; (refine o_does (d_alloc rfl rfl (by decide)) ?_)))) | (refine k_ops ?_; (first | refine o_go (by first | exact .inl rfl | exact .inr ⟨_, _, _, rfl, rfl, rfl⟩) ?_ | refine o_nil ?_)) | (refine k_run ?_; (first | refine r_seq ?_ | refine r_region ?_ | refine r_skip ?_ | refine r_block ?_ | refine r_inBlock ?_ | refine r_if rfl (fun _ => ?_) (fun _ => ?_) | refine r_exit rfl ?_)))
          all_goals try (first | exact r_ret Tryz.func113 _ (res_two rfl rfl rfl) ⟨_, rfl, ⟨_, _, rfl⟩, rfl⟩ | exact r_less (ih2 (k2 + 1) (by omega) (by omega)) rfl rfl | exact r_less (ih1 (k1 + 1) (by omega) (by omega)) rfl rfl | (exfalso; omega) | (exfalso; simp_all; done))
        case neg =>
          repeat' (first | (refine k_op1 ?_; (first | refine o_sv rfl (by decide) ?_ | (refine k_bin ?_; (refine o_val (v_add (wi64 (by omega) (by omega))) rfl rfl (by decide) ?_)))) | (refine k_ops ?_; (first | refine o_go (by first | exact .inl rfl | exact .inr ⟨_, _, _, rfl, rfl, rfl⟩) ?_ | refine o_nil ?_)) | (refine k_run ?_; (first | refine r_seq ?_ | refine r_region ?_ | refine r_skip ?_ | refine r_block ?_ | refine r_inBlock ?_ | refine r_if rfl (fun _ => ?_) (fun _ => ?_) | refine r_exit rfl ?_)))
          all_goals try (first | exact r_ret Tryz.func113 _ (res_two rfl rfl rfl) ⟨_, rfl, ⟨_, _, rfl⟩, rfl⟩ | exact r_less (ih1 (k1 + 1) (by omega) (by omega)) rfl rfl | (exfalso; omega) | (exfalso; simp_all; done))
    case neg =>
      repeat' (first | (refine k_op1 ?_; (refine o_sv rfl (by decide) ?_)) | (refine k_ops ?_; (first | refine o_go (by first | exact .inl rfl | exact .inr ⟨_, _, _, rfl, rfl, rfl⟩) ?_ | refine o_nil ?_)) | (refine k_run ?_; (first | refine r_seq ?_ | refine r_region ?_ | refine r_skip ?_ | refine r_block ?_ | refine r_if rfl (fun _ => ?_) (fun _ => ?_) | refine r_exit rfl ?_)))
      all_goals try (first | exact r_ret Tryz.func113 _ (res_two rfl rfl rfl) ⟨_, rfl, ⟨_, _, rfl⟩, rfl⟩ | (exfalso; omega) | (exfalso; simp_all; done))

theorem tokens_v (c : Corpus) (hc : Small c) : NF Tryz.prog 114 [c.d] IsII := by
  refine nf_of fun H => ?_
  refine spec_of Tryz.func114 (by kernel_rfl) rfl (by simp) ?_
  dsimp only [Tryz.f114]
  have h1 := hc.toks
  have h2 := hc.nattrs
  repeat' (first | (refine k_op1 ?_; (first | refine o_sv rfl (by decide) ?_ | (refine k_load ?_; (refine o_val (v_load rfl rfl rfl rfl) rfl rfl (by decide) ?_)) | (refine k_field ?_; (refine o_val (v_field rfl rfl) rfl rfl (by decide) ?_)) | (refine k_blt ?_; (refine o_val (v_lenm rfl) rfl rfl (by decide) ?_)) | (refine k_box ?_; (refine o_does (d_box_d rfl rfl (by decide)) ?_)))) | (refine k_ops ?_; (first | refine o_go (by first | exact .inl rfl | exact .inr ⟨_, _, _, rfl, rfl, rfl⟩) ?_ | refine o_nil ?_)) | (refine k_run ?_; (first | refine r_seq ?_ | refine r_region ?_ | refine r_skip ?_ | refine r_block ?_ | refine r_if rfl (fun _ => ?_) (fun _ => ?_))))
  all_goals try (first | exact r_ret Tryz.func114 _ (res_two rfl rfl rfl) ⟨_, rfl, ⟨_, _, rfl⟩, rfl⟩ | (exfalso; omega) | (exfalso; simp_all; done))
  all_goals
    refine r_loop ?_
    refine r_less (r_inv (fun k1 : Nat => ⟨48, [(1, PV.ptr (0, 1) 0), (14, PV.d (D.slice (List.map (fun t => [strs t]) c.tokens))), (15, I IntKind.i64 (↑c.tokens.length : Int)), (16, I .i64 (k1 : Nat))], [(1, Blk.box (List.map PV.d c.cs))], H⟩) (fun k1 : Nat => k1 ≤ c.tokens.length) (fun k1 : Nat => c.tokens.length - k1) ?_ 0 (Nat.zero_le _)) rfl rfl
    intro k1 hk1 ih1
    by_cases hlt1 : k1 < c.tokens.length
    case pos =>
      obtain ⟨x1, hx1⟩ : ∃ x, c.tokens[k1]? = some x := ⟨_, List.getElem?_eq_getElem (by omega)⟩
      have hp1 := hc.tok x1 (List.mem_of_getElem? hx1)
      repeat' (first | (refine k_op1 ?_; (first | refine o_sv rfl (by decide) ?_ | (refine k_load ?_; (first | refine o_val (v_load rfl rfl rfl rfl) rfl rfl (by decide) ?_ | refine o_val (v_loade rfl rfl rfl) rfl rfl (by decide) ?_)) | (refine k_field ?_; (refine o_val (v_field rfl rfl) rfl rfl (by decide) ?_)) | (refine k_index ?_; (refine o_val (v_index rfl (by omega) (idx hx1) rfl) rfl rfl (by decide) ?_)) | (refine k_blt ?_; (refine o_val (v_lenm rfl) rfl rfl (by decide) ?_)))) | (refine k_ops ?_; (first | refine o_go (by first | exact .inl rfl | exact .inr ⟨_, _, _, rfl, rfl, rfl⟩) ?_ | refine o_nil ?_)) | (refine k_run ?_; (first | refine r_seq ?_ | refine r_region ?_ | refine r_skip ?_ | refine r_block ?_ | refine r_if rfl (fun _ => ?_) (fun _ => ?_) | refine r_ifn rfl (fun _ => ?_) (fun _ => ?_) | refine r_exit rfl ?_)))
      all_goals try (first | exact r_ret Tryz.func114 _ (res_two rfl rfl rfl) ⟨_, rfl, ⟨_, _, rfl⟩, rfl⟩ | exact r_less (ih1 (k1 + 1) (by omega) (by omega)) rfl rfl | (exfalso; omega) | (exfalso; simp_all; done))
      all_goals
        refine r_loop ?_
        refine r_less (r_inv (fun k2 : Nat => ⟨48, [(1, PV.ptr (0, 1) 0), (4, I IntKind.i64 (↑k1 : Int)), (5, PV.d (strs x1)), (14, PV.d (D.slice (List.map (fun t => [strs t]) c.tokens))), (15, I IntKind.i64 (↑c.tokens.length : Int)), (16, I IntKind.i64 (↑k1 : Int)), (28, PV.d (strs x1)), (29, I IntKind.i64 (↑x1.length : Int)), (30, I .i64 (k2 : Nat))], [(1, Blk.box (List.map PV.d c.cs))], H⟩) (fun k2 : Nat => k2 ≤ x1.length) (fun k2 : Nat => x1.length - k2) ?_ 0 (Nat.zero_le _)) rfl rfl
        intro k2 hk2 ih2
        by_cases hlt2 : k2 < x1.length
        case pos =>
          obtain ⟨x2, hx2⟩ : ∃ x, x1[k2]? = some x := ⟨_, List.getElem?_eq_getElem (by omega)⟩
          have hv2 := hp1.2 x2 (List.mem_of_getElem? hx2)
          obtain ⟨y2, hy2⟩ : ∃ x, c.attrs[k2]? = some x := ⟨_, List.getElem?_eq_getElem (by omega)⟩
          repeat' (first | (refine k_op1 ?_; (first | refine o_sv rfl (by decide) ?_ | (refine k_load ?_; (first | refine o_val (v_load rfl rfl rfl rfl) rfl rfl (by decide) ?_ | refine o_val (v_loade rfl rfl rfl) rfl rfl (by decide) ?_ | refine o_val (v_loadea rfl rfl) rfl rfl (by decide) ?_)) | (refine k_field ?_; (refine o_val (v_field rfl rfl) rfl rfl (by decide) ?_)) | (refine k_index ?_; (first | refine o_val (v_index rfl (by omega) (idx hx2) rfl) rfl rfl (by decide) ?_ | refine o_val (v_index rfl (by omega) (idx hy2) rfl) rfl rfl (by decide) ?_)) | (refine k_bin ?_; (refine o_val (v_add (wi64 (by omega) (by omega))) rfl rfl (by decide) ?_)) | (refine k_call ?_; ((refine o_nf (value_s _ _ hv2) rfl (by decide) (fun p hp => ?_); obtain ⟨_, rfl⟩ := hp))))) | (refine k_ops ?_; (first | refine o_go (by first | exact .inl rfl | exact .inr ⟨_, _, _, rfl, rfl, rfl⟩) ?_ | refine o_nil ?_)) | (refine k_run ?_; (first | refine r_seq ?_ | refine r_region ?_ | refine r_skip ?_ | refine r_block ?_ | refine r_inBlock ?_ | refine r_if rfl (fun _ => ?_) (fun _ => ?_) | refine r_ifn rfl (fun _ => ?_) (fun _ => ?_) | refine r_exit rfl ?_)))
          all_goals try (first | exact r_ret Tryz.func114 _ (res_two rfl rfl rfl) ⟨_, rfl, ⟨_, _, rfl⟩, rfl⟩ | exact r_less (ih2 (k2 + 1) (by omega) (by omega)) rfl rfl | exact r_less (ih1 (k1 + 1) (by omega) (by omega)) rfl rfl | (exfalso; omega) | (exfalso; simp_all; done))
        case neg =>
          repeat' (first | (refine k_op1 ?_; (first | refine o_sv rfl (by decide) ?_ | (refine k_bin ?_; (refine o_val (v_add (wi64 (by omega) (by omega))) rfl rfl (by decide) ?_)))) | (refine k_ops ?_; (first | refine o_go (by first | exact .inl rfl | exact .inr ⟨_, _, _, rfl, rfl, rfl⟩) ?_ | refine o_nil ?_)) | (refine k_run ?_; (first | refine r_seq ?_ | refine r_region ?_ | refine r_skip ?_ | refine r_block ?_ | refine r_inBlock ?_ | refine r_if rfl (fun _ => ?_) (fun _ => ?_) | refine r_exit rfl ?_)))
          all_goals try (first | exact r_ret Tryz.func114 _ (res_two rfl rfl rfl) ⟨_, rfl, ⟨_, _, rfl⟩, rfl⟩ | exact r_less (ih1 (k1 + 1) (by omega) (by omega)) rfl rfl | (exfalso; omega) | (exfalso; simp_all; done))
    case neg =>
      repeat' (first | (refine k_op1 ?_; (refine o_sv rfl (by decide) ?_)) | (refine k_ops ?_; (first | refine o_go (by first | exact .inl rfl | exact .inr ⟨_, _, _, rfl, rfl, rfl⟩) ?_ | refine o_nil ?_)) | (refine k_run ?_; (first | refine r_seq ?_ | refine r_region ?_ | refine r_skip ?_ | refine r_block ?_ | refine r_if rfl (fun _ => ?_) (fun _ => ?_) | refine r_exit rfl ?_)))
      all_goals try (first | exact r_ret Tryz.func114 _ (res_two rfl rfl rfl) ⟨_, rfl, ⟨_, _, rfl⟩, rfl⟩ | (exfalso; omega) | (exfalso; simp_all; done))

end Go.Proofs.YtonhfccmeammbaaGreatDoor
