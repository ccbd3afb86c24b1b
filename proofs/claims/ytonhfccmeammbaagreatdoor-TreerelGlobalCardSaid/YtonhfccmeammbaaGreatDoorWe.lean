/- What the generator of documents makes, for every list of numbers. -/
import Derived.Test.YtonhfccmeammbaaGreatDoorWc
import Derived.Test.YtonhfccmeammbaaGreatDoorWd
set_option linter.all false
set_option linter.unusedVariables false
set_option linter.unusedSimpArgs false
namespace Go.Proofs.YtonhfccmeammbaaGreatDoor
open Go.Ab
set_option maxHeartbeats 20000000
attribute [local irreducible] Run Ops Op1 Does Val Tr PureF Eff1 NF

theorem tnum_range (l : List Int) (k : Nat) {n : Int} (h : 0 < n) : 0 ≤ tnum l k n ∧ tnum l k n < n := by
  unfold tnum
  split
  · exact modv_range h
  · omega
theorem tn0 {l : List Int} {k : Nat} {n : Int} (h : 0 < n) : 0 ≤ tnum l k n := (tnum_range l k h).1
theorem tn1 {l : List Int} {k : Nat} {n : Int} (h : 0 < n) : tnum l k n < n := (tnum_range l k h).2
theorem tnext_le {l : List Int} {k : Nat} (hl : l.length ≤ 120) (hk : k ≤ 120) : tnext l k ≤ 120 := by unfold tnext; split <;> omega
theorem next_r (l : List Int) (k : Nat) (n : Int) (m : Nat) (hl : l.length ≤ 120) (hk : k ≤ 120) (hn : 0 < n ∧ n ≤ 9223372036854775807) :
    Rel Tryz.prog 26 [.ptr (0, m) 0, I .i64 n] [((0, m), tapeB l k)] (fun x : Int × Nat => 0 ≤ x.1 ∧ x.1 < n ∧ x.2 ≤ 120) (fun x => I .i64 x.1) (fun x => [((0, m), tapeB l x.2)]) :=
  (next_s l k n 0 m hl hk (by omega)).rel (tnum l k n, tnext l k) ⟨tn0 hn.1, tn1 hn.1, tnext_le hl hk⟩ rfl

theorem rel_of {P : Program} {g : FuncId} {ps : List PV} {bs : List (Nm × Blk)} {σ : Type} {Q : σ → Prop} {p : σ → PV} {hs : σ → List (Nm × Blk)}
    (h : ∀ H : Hf, (∀ q ∈ bs, H q.1.1 q.1.2 = some q.2) → Ab.Spec P g ps H (fun r H' => ∃ x, Q x ∧ r = .v (p x) ∧ H' = updL H (hs x))) : Rel P g ps bs Q p hs := h

def cellH : List Int → PV
  | [] => .d (.lit nilS)
  | l => .d (ints l)
def cellS : List Str → PV
  | [] => .d (.lit nilS)
  | l => .d (strs l)
/-- the forest that heads lays -/
def Forest (n : Nat) (hs : List Int) (rs : List Str) : Prop := (hs = [] ∧ rs = []) ∨ (hs.length = n ∧ rs.length = n ∧ ∃ ord : List Int, ord.length = n ∧ ord.Nodup ∧ (∀ x ∈ ord, 0 ≤ x ∧ x < n) ∧
  ∀ (p : Nat) (x : Int), ord[p]? = some x → ∃ h : Int, hs[x.toNat]? = some h ∧ (h = -1 ∨ ∃ q : Nat, q < p ∧ ord[q]? = some h))
theorem ins_facts {ord : List Int} {i : Nat} {v : Int} (h2 : ord.length = i) (h3 : ord.Nodup) (h4 : ∀ x ∈ ord, 0 ≤ x ∧ x < (i : Int)) :
    (ord.take v.toNat ++ (i : Int) :: ord.drop v.toNat).length = i + 1 ∧ (ord.take v.toNat ++ (i : Int) :: ord.drop v.toNat).Nodup ∧ ∀ x ∈ ord.take v.toNat ++ (i : Int) :: ord.drop v.toNat, 0 ≤ x ∧ x < ((i + 1 : Nat) : Int) := by
  have hp : (ord.take v.toNat ++ (i : Int) :: ord.drop v.toNat).Perm ((i : Int) :: ord) := by
    have := List.perm_middle (a := (i : Int)) (l₁ := ord.take v.toNat) (l₂ := ord.drop v.toNat)
    rwa [List.take_append_drop] at this
  refine ⟨by rw [hp.length_eq]; simp [h2], (hp.nodup_iff).2 (List.nodup_cons.2 ⟨fun hm => by have := h4 _ hm; omega, h3⟩), fun x hx => ?_⟩
  rcases List.mem_cons.1 ((hp.mem_iff).1 hx) with rfl | hx
  · omega
  · have := h4 x hx; omega
def oAt (l : List Int) (i : Int) : Int := l.getD i.toNat 0
theorem oAt_some {l : List Int} {i : Int} (h0 : 0 ≤ i) (h : i < l.length) : l[i.toNat]? = some (oAt l i) := by
  have h1 : i.toNat < l.length := by omega
  rw [oAt, List.getD, List.getElem?_eq_getElem h1]; rfl
def relL : List Str := [⟨#[111, 98, 106]⟩, ⟨#[100, 101, 116]⟩, ⟨#[]⟩]
theorem relL_size : ∀ s ∈ relL, s.size ≤ 10 := by simp only [relL, List.mem_cons, List.not_mem_nil, or_false]; rintro s (rfl | rfl | rfl) <;> decide
theorem atL_mem {l : List Str} {i : Int} (h0 : 0 ≤ i) (h : i < l.length) : atL l i ∈ l := List.mem_of_getElem? (atL_some h0 h)
/-- one more token has its head -/
theorem forest_step {n p : Nat} {ord hq : List Int} {x v : Int} (hd : ord.Nodup) (hr : ∀ x ∈ ord, 0 ≤ x ∧ x < (n : Int)) (hl : hq.length = n) (hx : ord[p]? = some x)
    (h : ∀ (j : Nat) (x : Int), j < p → ord[j]? = some x → ∃ h : Int, hq[x.toNat]? = some h ∧ (h = -1 ∨ ∃ q : Nat, q < j ∧ ord[q]? = some h)) (hv : v = -1 ∨ ∃ q : Nat, q < p ∧ ord[q]? = some v) :
    ∀ (j : Nat) (y : Int), j < p + 1 → ord[j]? = some y → ∃ h : Int, (hq.set x.toNat v)[y.toNat]? = some h ∧ (h = -1 ∨ ∃ q : Nat, q < j ∧ ord[q]? = some h) := by
  intro j y hj hy
  have hx0 := hr x (List.mem_of_getElem? hx)
  have hy0 := hr y (List.mem_of_getElem? hy)
  by_cases e : j = p
  · subst e
    rw [hx] at hy; simp at hy; subst hy
    exact ⟨v, List.getElem?_set_self (by omega), hv⟩
  · have hne : x ≠ y := by
      rintro rfl
      have h1 := (List.getElem?_eq_some_iff.1 hx)
      have h2 := (List.getElem?_eq_some_iff.1 hy)
      obtain ⟨l1, e1⟩ := h1
      obtain ⟨l2, e2⟩ := h2
      exact e ((List.getElem_inj hd).1 (e2.trans e1.symm))
    rw [List.getElem?_set_ne (by omega)]
    exact h j y (by omega) hy
theorem give2 (H : Hf) (A B : Blk) : upd (upd (upd (upd H (0, 500) .gone) (0, 8) .gone) (0, 8) B) (0, 500) A = updL H [((0, 500), A), ((0, 8), B)] := by
  simp only [updL]
  funext d s
  simp only [upd]
  repeat' split
  all_goals first | rfl | simp_all | omega

theorem heads_r (l : List Int) (k : Nat) (A X R N : D) (ts : List (List Str)) (hl : l.length ≤ 120) (hk : k ≤ 120) (hn : 0 < ts.length ∧ ts.length ≤ 1000) :
    Rel Tryz.prog 52 [.ptr (0, 500) 0, .ptr (0, 8) 0] [((0, 500), tapeB l k), ((0, 8), .box [.d A, .d (.slice (ts.map fun t => [strs t])), .d X, .d R, .d N, .d (.lit nilS), .d (.lit nilS)])]
      (fun x : List Int × List Str × Nat => Forest ts.length x.1 x.2.1 ∧ (∀ s ∈ x.2.1, s.size ≤ 10) ∧ x.2.2 ≤ 120) (fun _ => .tup [])
      (fun x => [((0, 500), tapeB l x.2.2), ((0, 8), .box [.d A, .d (.slice (ts.map fun t => [strs t])), .d X, .d R, .d N, cellH x.1, cellS x.2.1])]) := by
  refine rel_of fun H hH => ?_
  have hH0 := hH ((0, 500), tapeB l k) (by simp)
  have hH1 := hH ((0, 8), _) (List.mem_cons_of_mem _ (List.mem_cons_self))
  refine spec_of Tryz.func52 (by kernel_rfl) rfl (by simp) ?_
  dsimp only [Tryz.f52]
  refine r_take 500 0 500 hH0 rfl rfl ?_
  refine r_take 501 0 8 (by simp only [upd]; rw [if_neg (by simp)]; exact hH1) rfl rfl ?_
  refine r_less (tm' := [(0, .ptr (0, 500) 0), (1, .ptr (0, 501) 0), (100500, .al (0, 500) (1, 500)), (100501, .al (0, 501) (1, 8))]) (hp' := [(500, tapeB l k), (501, .box [.d A, .d (.slice (ts.map fun t => [strs t])), .d X, .d R, .d N, .d (.lit nilS), .d (.lit nilS)])]) ?_ rfl rfl
  repeat' (first | (refine k_op1 ?_; (first | refine o_sv rfl (by decide) ?_ | (refine k_load ?_; (refine o_val (v_load rfl rfl rfl rfl) rfl rfl (by decide) ?_)) | (refine k_field ?_; (refine o_val (v_field rfl rfl) rfl rfl (by decide) ?_)) | (refine k_blt ?_; (refine o_val (v_lenm rfl) rfl rfl (by decide) ?_)))) | (refine k_ops ?_; (first | refine o_go (by first | exact .inl rfl | exact .inr ⟨_, _, _, rfl, rfl, rfl⟩) ?_ | refine o_nil ?_)) | (refine k_run ?_; (first | refine r_seq ?_ | refine r_region ?_ | refine r_block ?_)))
  refine r_nil 5 rfl ?_
  refine r_loop ?_
  refine r_less (r_inv (fun q : Nat × List Int × Nat => ⟨102, [(0, .ptr (0, 500) 0), (1, .ptr (0, 501) 0), (4, I .i64 ts.length), (5, .d (ints q.2.1)), (6, I .i64 q.1), (100500, .al (0, 500) (1, 500)), (100501, .al (0, 501) (1, 8))], [(500, tapeB l q.2.2), (501, .box [.d A, .d (.slice (ts.map fun t => [strs t])), .d X, .d R, .d N, .d (.lit nilS), .d (.lit nilS)])], upd (upd H (0, 500) .gone) (0, 8) .gone⟩)
    (fun q => q.1 ≤ ts.length ∧ q.2.1.length = q.1 ∧ q.2.1.Nodup ∧ (∀ x ∈ q.2.1, 0 ≤ x ∧ x < q.1) ∧ q.2.2 ≤ 120) (fun q => ts.length - q.1) ?_ ⟨0, [], k⟩ ⟨Nat.zero_le _, rfl, List.nodup_nil, by simp, hk⟩) rfl rfl
  intro ⟨i, ord, kt⟩ ⟨h1, h2, h3, h4, h5⟩ ih
  simp only at h1 h2 h3 h4 h5 ih ⊢
  by_cases hlt : i < ts.length
  · repeat' (first | (refine k_op1 ?_; (first | refine o_sv rfl (by decide) ?_ | (refine k_bin ?_; (refine o_val (v_add (wi64 (by omega) (by omega))) rfl rfl (by decide) ?_)) | (refine k_call ?_; ((refine o_rel1 (next_r l kt (i + 1) 500 hl h5 (by omega)) rfl rfl (by decide) ?_; rintro ⟨v, kt'⟩ ⟨hv1, hv2, hv3⟩; simp only at hv1 hv2 hv3 ⊢))))) | (refine k_ops ?_; (first | refine o_go (by first | exact .inl rfl | exact .inr ⟨_, _, _, rfl, rfl, rfl⟩) ?_ | refine o_nil ?_)) | (refine k_run ?_; (first | refine r_seq ?_ | refine r_region ?_ | refine r_skip ?_ | refine r_block ?_ | refine r_tr ?_ | refine r_inBlock ?_ | refine r_if rfl (fun _ => ?_) (fun _ => ?_) | refine r_exit rfl ?_)) | (refine k_tr ?_; (first | (refine kt_end ?_; refine t_end mix (by kernel_rfl) ?_) | refine t_sv rfl (by first | exact rfl | exact ⟨_, rfl, rfl, rfl⟩) (by decide) ?_ | (refine kt_slice ?_; (first | refine t_val (v_slicetm rfl (by omega) (by omega) (fun _ => rfl)) (by first | exact rfl | exact ⟨_, rfl, rfl, rfl⟩) rfl rfl (by decide) ?_ | refine t_val (v_slicefm rfl (by omega) (by omega) (fun _ => rfl)) (by first | exact rfl | exact ⟨_, rfl, rfl, rfl⟩) rfl rfl (by decide) ?_)) | (refine kt_blt ?_; (first | refine t_apps (by first | exact rfl | exact ⟨_, rfl, rfl, rfl⟩) rfl rfl rfl rfl rfl (fun _ => rfl) rfl rfl (by decide) (by simp; omega) ?_ | refine t_app1 (by first | exact rfl | exact ⟨_, rfl, rfl, rfl⟩) rfl rfl _ rfl rfl rfl rfl rfl rfl rfl (by decide) (by simp; omega) ?_)) | (refine kt_lit ?_; (first | refine t_lito (lp := []) (ys := ([] : List Int).map fun x => [Dint x]) (by first | exact rfl | exact ⟨_, rfl, rfl, rfl⟩) rfl rfl rfl rfl rfl rfl rfl rfl rfl (by decide) ?_ | refine t_lit (by first | exact rfl | exact ⟨_, rfl, rfl, rfl⟩) rfl rfl rfl rfl rfl rfl rfl rfl (by decide) ?_)))))
    · obtain ⟨f1, f2, f3⟩ := ins_facts (v := v) h2 h3 h4
      refine r_freeze 38 rfl ?_
      have e : [] ++ ord.take v.toNat ++ [(i : Int)] ++ ord.drop v.toNat = ord.take v.toNat ++ (i : Int) :: ord.drop v.toNat := by simp
      rw [e]
      exact r_less (ih ⟨i + 1, ord.take v.toNat ++ (i : Int) :: ord.drop v.toNat, kt'⟩ ⟨by omega, f1, f2, f3, hv3⟩ (by simp only; omega)) rfl rfl
    · exfalso; omega
  · repeat' (first | (refine k_op1 ?_; (first | refine o_sv rfl (by decide) ?_ | (refine k_bin ?_; (refine o_val (v_add (wi64 (by omega) (by omega))) rfl rfl (by decide) ?_)) | (refine k_blt ?_; (refine o_val (v_lenm rfl) rfl rfl (by decide) ?_)))) | (refine k_ops ?_; (first | refine o_go (by first | exact .inl rfl | exact .inr ⟨_, _, _, rfl, rfl, rfl⟩) ?_ | refine o_nil ?_)) | (refine k_run ?_; (first | refine r_seq ?_ | refine r_region ?_ | refine r_skip ?_ | refine r_block ?_ | refine r_tr ?_ | refine r_if rfl (fun _ => ?_) (fun _ => ?_) | refine r_exit rfl ?_)) | (refine k_tr ?_; (first | (refine kt_end ?_; refine t_end mix (by kernel_rfl) ?_) | refine t_sv rfl (by first | exact rfl | exact ⟨_, rfl, rfl, rfl⟩) (by decide) ?_ | (refine kt_make ?_; (first | refine t_make (xs := (List.replicate ts.length (⟨#[]⟩ : Str)).map fun x => [Dstr x]) (by first | exact rfl | exact ⟨_, rfl, rfl, rfl⟩) rfl rfl (by omega) (by omega) rfl rfl rfl (by decide) (by rw [List.map_replicate]; rfl) ?_ | refine t_make (xs := (List.replicate ts.length (0 : Int)).map fun x => [Dint x]) (by first | exact rfl | exact ⟨_, rfl, rfl, rfl⟩) rfl rfl (by omega) (by omega) rfl rfl rfl (by decide) (by rw [List.map_replicate]; rfl) ?_)))))
    · exfalso; omega
    obtain rfl : i = ts.length := by omega
    refine r_loop ?_
    refine r_less (r_inv (fun q : Nat × List Int × List Str × Bool × Nat => ⟨102, [(0, .ptr (0, 500) 0), (1, .ptr (0, 501) 0), (5, .d (ints ord)), (8, .ref (0, 40)), (9, .ref (0, 42)), (10, B q.2.2.2.1), (43, .d (ints ord)), (44, I .i64 ord.length), (45, I .i64 q.1), (100500, .al (0, 500) (1, 500)), (100501, .al (0, 501) (1, 8))],
        [(40, .row 3 1 (q.2.1.map fun x => [Dint x])), (42, .row 9 1 (q.2.2.1.map fun x => [Dstr x])), (500, tapeB l q.2.2.2.2), (501, .box [.d A, .d (.slice (ts.map fun t => [strs t])), .d X, .d R, .d N, .d (.lit nilS), .d (.lit nilS)])], upd (upd H (0, 500) .gone) (0, 8) .gone⟩)
      (fun q => q.1 ≤ ts.length ∧ q.2.1.length = ts.length ∧ q.2.2.1.length = ts.length ∧ q.2.2.2.2 ≤ 120 ∧ (∀ s ∈ q.2.2.1, s.size ≤ 10) ∧ ∀ (j : Nat) (x : Int), j < q.1 → ord[j]? = some x → ∃ h : Int, q.2.1[x.toNat]? = some h ∧ (h = -1 ∨ ∃ q : Nat, q < j ∧ ord[q]? = some h))
      (fun q => ts.length - q.1) ?_ ⟨0, List.replicate ts.length 0, List.replicate ts.length ⟨#[]⟩, false, kt⟩ ⟨Nat.zero_le _, by simp, by simp, h5, by intro s hs; simp at hs; rw [hs.2]; decide, by simp⟩) rfl rfl
    intro ⟨p, hq, rq, sm, kz⟩ ⟨g1, g2, g3, g4, g5, g6⟩ ih2
    simp only at g1 g2 g3 g4 g5 g6 ih2 ⊢
    by_cases hlp : p < ord.length
    · obtain ⟨x, hx⟩ : ∃ x, ord[p]? = some x := ⟨_, List.getElem?_eq_getElem hlp⟩
      have hxr := h4 x (List.mem_of_getElem? hx)
      obtain ⟨z, hz⟩ : ∃ z, hq[x.toNat]? = some z := ⟨_, List.getElem?_eq_getElem (by omega)⟩
      obtain ⟨r0, hr0⟩ : ∃ z, rq[x.toNat]? = some z := ⟨_, List.getElem?_eq_getElem (by omega)⟩
      have hzs : ∀ v : Int, (hq.set x.toNat v)[x.toNat]? = some v := fun v => List.getElem?_set_self (by omega)
      have hzt : ∀ u v : Int, ((hq.set x.toNat u).set x.toNat v)[x.toNat]? = some v := fun u v => List.getElem?_set_self (by simp; omega)
      have hrs : ∀ v : Str, (rq.set x.toNat v)[x.toNat]? = some v := fun v => List.getElem?_set_self (by omega)
      repeat' (first | (refine k_op1 ?_; (first | refine o_sv rfl (by decide) ?_ | (refine k_load ?_; (first | refine o_val (v_rloadm (hzs _) rfl rfl rfl) rfl rfl (by decide) ?_ | refine o_val (v_rloadm (hzt _ _) rfl rfl rfl) rfl rfl (by decide) ?_ | refine o_val (v_rloadm hr0 rfl rfl rfl) rfl rfl (by decide) ?_ | refine o_val (v_rloadm (hrs _) rfl rfl rfl) rfl rfl (by decide) ?_ | refine o_val (v_loade rfl rfl rfl) rfl rfl (by decide) ?_)) | (refine k_field ?_; (refine o_val (v_field rfl rfl) rfl rfl (by decide) ?_)) | (refine k_index ?_; (first | refine o_val (v_index rfl (by omega) (idx hx) rfl) rfl rfl (by decide) ?_ | refine o_val (v_rindex rfl (by omega) (by simp; omega) rfl) rfl rfl (by decide) ?_)) | (refine k_bin ?_; (refine o_val (v_add (wi64 (by omega) (by omega))) rfl rfl (by decide) ?_)) | (refine k_call ?_; ((refine o_rel1 (next_r l kz 4 500 hl g4 (by decide)) rfl rfl (by decide) ?_; rintro ⟨v, kt'⟩ ⟨hv1, hv2, hv3⟩; simp only at hv1 hv2 hv3 ⊢))) | (refine k_store ?_; (first | refine o_rstorem (-1) (by rfl) (by rfl) (by rfl) (by rfl) hz (by rfl) (by rfl) (by rfl) (by rfl) ?_ | refine o_store0 rfl rfl rfl rfl rfl rfl ?_)))) | (refine k_ops ?_; (first | refine o_go (by first | exact .inl rfl | exact .inr ⟨_, _, _, rfl, rfl, rfl⟩) ?_ | refine o_nil ?_ | refine o_no rfl rfl (by decide) ?_ | refine o_casep rfl rfl (fun _ => ?_) (fun _ => ?_) | refine o_casen rfl rfl (fun _ => ?_) (fun _ => ?_) | refine o_case rfl rfl (fun _ => ?_) (fun _ => ?_))) | (refine k_run ?_; (first | refine r_seq ?_ | refine r_region ?_ | refine r_false rfl ?_ | refine r_skip ?_ | refine r_block ?_ | refine r_tr ?_ | refine r_inBlock ?_ | refine r_if rfl (fun _ => ?_) (fun _ => ?_) | refine r_cond rfl (fun _ => ?_) (fun _ => ?_) | refine r_exit rfl ?_)) | (refine k_tr ?_; (first | (refine kt_end ?_; refine t_end mix (by kernel_rfl) ?_) | refine t_sv rfl (by first | exact rfl | exact ⟨_, rfl, rfl, rfl⟩) (by decide) ?_ | (refine kt_load ?_; (refine t_val (v_loade rfl rfl rfl) (by first | exact rfl | exact ⟨_, rfl, rfl, rfl⟩) rfl rfl (by decide) ?_)) | (refine kt_index ?_; (first | refine t_val (v_rindex rfl (by omega) (by simp; omega) rfl) (by first | exact rfl | exact ⟨_, rfl, rfl, rfl⟩) rfl rfl (by decide) ?_ | refine t_val (v_index rfl (tn0 (by omega)) (idxi (oAt_some (tn0 (by omega)) (Int.lt_trans (tn1 (by omega)) (by omega)))) rfl) (by first | exact rfl | exact ⟨_, rfl, rfl, rfl⟩) rfl rfl (by decide) ?_ | refine t_val (v_index rfl (tn0 (by omega)) (idxi (atL_some (l := relL) (tn0 (by decide)) (Int.lt_of_lt_of_le (tn1 (by decide)) (by decide)))) rfl) (by first | exact rfl | exact ⟨_, rfl, rfl, rfl⟩) rfl rfl (by decide) ?_)) | (refine kt_call ?_; (first | refine t_eff (next_s l kt' (p : Int) 0 500 hl hv3 (by omega)) (by first | exact rfl | exact ⟨_, rfl, rfl, rfl⟩) rfl rfl (by decide) ?_ | refine t_eff (next_s l (tnext l kt') 3 0 500 hl (tnext_le hl hv3) (by decide)) (by first | exact rfl | exact ⟨_, rfl, rfl, rfl⟩) rfl rfl (by decide) ?_)) | (refine kt_store ?_; (first | refine t_rstorem (oAt ord (tnum l kt' (p : Int))) (by first | exact rfl | exact ⟨_, rfl, rfl, rfl⟩) (by rfl) (by rfl) (by rfl) (by rfl) (hzs _) (by rfl) (by rfl) (by rfl) (by rfl) ?_ | refine t_rstorem (atL relL (tnum l (tnext l kt') 3)) (by first | exact rfl | exact ⟨_, rfl, rfl, rfl⟩) (by rfl) (by rfl) (by rfl) (by rfl) hr0 (by rfl) (by rfl) (by rfl) (by rfl) ?_)) | (refine kt_lit ?_; (refine t_lit (ys := relL.map fun x => [Dstr x]) (by first | exact rfl | exact ⟨_, rfl, rfl, rfl⟩) rfl rfl rfl rfl rfl rfl rfl rfl (by decide) ?_)))))
      all_goals try (exfalso; omega)
      all_goals try (exact r_less (ih2 ⟨p + 1, hq.set x.toNat (-1), rq, _, kt'⟩ ⟨by omega, by simpa using g2, g3, hv3, g5, forest_step h3 h4 g2 hx g6 (.inl rfl)⟩ (by simp only; omega)) rfl rfl)
      all_goals try (exact r_less (ih2 ⟨p + 1, hq.set x.toNat (-1), rq, _, kz⟩ ⟨by omega, by simpa using g2, g3, g4, g5, forest_step h3 h4 g2 hx g6 (.inl rfl)⟩ (by simp only; omega)) rfl rfl)
      all_goals
        have hb0 := tn0 (l := l) (k := kt') (n := (p : Int)) (by omega)
        have hb1 := tn1 (l := l) (k := kt') (n := (p : Int)) (by omega)
        have hfs := forest_step (v := oAt ord (tnum l kt' (p : Int))) h3 h4 g2 hx g6 (.inr ⟨(tnum l kt' (p : Int)).toNat, by omega, oAt_some hb0 (by omega)⟩)
        rw [← List.set_set (a := (-1 : Int))] at hfs
        refine r_less (ih2 ⟨p + 1, (hq.set x.toNat (-1)).set x.toNat (oAt ord (tnum l kt' (p : Int))), rq.set x.toNat (atL relL (tnum l (tnext l kt') 3)), _, tnext l (tnext l kt')⟩ ⟨by omega, by simpa using g2, by simpa using g3, tnext_le hl (tnext_le hl hv3), ?_, hfs⟩ (by simp only; omega)) rfl rfl
        intro s hs
        rcases List.mem_or_eq_of_mem_set hs with hs | rfl
        · exact g5 s hs
        · exact relL_size _ (atL_mem (l := relL) (i := tnum l (tnext l kt') 3) (tn0 (by decide)) (Int.lt_of_lt_of_le (tn1 (by decide)) (by decide)))
    · refine r_freeze 40 rfl ?_
      refine r_freeze 42 rfl ?_
      repeat' (first | (refine k_op1 ?_; (first | refine o_sv rfl (by decide) ?_ | (refine k_field ?_; (refine o_val (v_field rfl rfl) rfl rfl (by decide) ?_)) | (refine k_store ?_; (refine o_store0 rfl rfl rfl rfl rfl rfl ?_)))) | (refine k_ops ?_; (first | refine o_go (by first | exact .inl rfl | exact .inr ⟨_, _, _, rfl, rfl, rfl⟩) ?_ | refine o_nil ?_)) | (refine k_run ?_; (first | refine r_seq ?_ | refine r_region ?_ | refine r_skip ?_ | refine r_block ?_ | refine r_if rfl (fun _ => ?_) (fun _ => ?_) | refine r_cond rfl (fun _ => ?_) (fun _ => ?_) | refine r_exit rfl ?_)))
      · exfalso; omega
      · refine r_give 501 0 8 (raw := .box [.d A, .d (.slice (ts.map fun t => [strs t])), .d X, .d R, .d N, .d (ints hq), .d (strs rq)]) rfl rfl rfl rfl rfl ?_
        refine r_give 500 0 500 (raw := tapeB l kz) rfl rfl rfl rfl rfl ?_
        refine r_end Tryz.func52 _ (res_none rfl) ⟨(hq, rq, kz), ⟨.inr ⟨g2, g3, ord, h2, h3, h4, fun j x hx => g6 j x (by have := (List.getElem?_eq_some_iff.1 hx).1; omega) hx⟩, g5, g4⟩, rfl, ?_⟩
        have e1 : cellH hq = .d (ints hq) := by cases hq with | nil => simp at g2; omega | cons a b => rfl
        have e2 : cellS rq = .d (strs rq) := by cases rq with | nil => simp at g3; omega | cons a b => rfl
        simp only [e1, e2]
        exact give2 H _ _
      · refine r_give 501 0 8 (raw := .box [.d A, .d (.slice (ts.map fun t => [strs t])), .d X, .d R, .d N, .d (.lit nilS), .d (.lit nilS)]) rfl rfl rfl rfl rfl ?_
        refine r_give 500 0 500 (raw := tapeB l kz) rfl rfl rfl rfl rfl ?_
        exact r_end Tryz.func52 _ (res_none rfl) ⟨([], [], kz), ⟨.inl ⟨rfl, rfl⟩, by simp, g4⟩, rfl, give2 H _ _⟩
end Go.Proofs.YtonhfccmeammbaaGreatDoor
namespace Go.Proofs.YtonhfccmeammbaaGreatDoor
open Go.Ab
set_option maxHeartbeats 20000000
attribute [local irreducible] Run Ops Op1 Does Val Tr PureF Eff1 NF Rel

/-- the constituents that nodes lays: one behind the other, each with at most one within it -/
inductive Grp (n : Int) : Int → List Node → Prop
  | nil : Grp n 0 []
  | top {at_ : Int} {ns : List Node} {b e : Int} {s : Str} : Grp n at_ ns → at_ ≤ b → b < e → e ≤ n → s.size ≤ 10 → Grp n e (ns ++ [⟨s, b, e, -1⟩])
  | both {at_ : Int} {ns : List Node} {b e m me : Int} {s t : Str} : Grp n at_ ns → at_ ≤ b → b < e → e ≤ n → s.size ≤ 10 → b ≤ m → m < me → me ≤ e → t.size ≤ 10 → Grp n e (ns ++ [⟨s, b, e, -1⟩] ++ [⟨t, m, me, ns.length⟩])
def labL : List Str := [⟨#[83]⟩, ⟨#[78, 80]⟩]
def labM : List Str := [⟨#[78, 80]⟩, ⟨#[86, 80]⟩]
theorem labL_size : ∀ s ∈ labL, s.size ≤ 10 := by simp only [labL, List.mem_cons, List.not_mem_nil, or_false]; rintro s (rfl | rfl) <;> decide
theorem labM_size : ∀ s ∈ labM, s.size ≤ 10 := by simp only [labM, List.mem_cons, List.not_mem_nil, or_false]; rintro s (rfl | rfl) <;> decide

theorem nodes_r (l : List Int) (k : Nat) (A X R : D) (ts : List (List Str)) (hl : l.length ≤ 120) (hk : k ≤ 120) (hn : 0 < ts.length ∧ ts.length ≤ 1000) :
    Rel Tryz.prog 51 [.ptr (0, 500) 0, .ptr (0, 8) 0] [((0, 500), tapeB l k), ((0, 8), .box [.d A, .d (.slice (ts.map fun t => [strs t])), .d X, .d R, .d (.lit nilS), .d (.lit nilS), .d (.lit nilS)])]
      (fun x : List Node × Int × Nat => Grp ts.length x.2.1 x.1 ∧ x.1.length ≤ 2000 ∧ x.2.2 ≤ 120) (fun _ => .tup [])
      (fun x => [((0, 500), tapeB l x.2.2), ((0, 8), .box [.d A, .d (.slice (ts.map fun t => [strs t])), .d X, .d R, .d (.slice (x.1.map Node.cs)), .d (.lit nilS), .d (.lit nilS)])]) := by
  refine rel_of fun H hH => ?_
  have hH0 := hH ((0, 500), tapeB l k) (by simp)
  have hH1 := hH ((0, 8), _) (List.mem_cons_of_mem _ (List.mem_cons_self))
  refine spec_of Tryz.func51 (by kernel_rfl) rfl (by simp) ?_
  dsimp only [Tryz.f51]
  refine r_take 500 0 500 hH0 rfl rfl ?_
  refine r_take 501 0 8 (by simp only [upd]; rw [if_neg (by simp)]; exact hH1) rfl rfl ?_
  refine r_less (tm' := [(0, .ptr (0, 500) 0), (1, .ptr (0, 501) 0), (100500, .al (0, 500) (1, 500)), (100501, .al (0, 501) (1, 8))]) (hp' := [(500, tapeB l k), (501, .box [.d A, .d (.slice (ts.map fun t => [strs t])), .d X, .d R, .d (.lit nilS), .d (.lit nilS), .d (.lit nilS)])]) ?_ rfl rfl
  refine r_cell_row 501 4 600 55 4 rfl rfl rfl rfl ?_
  repeat' (first | (refine k_op1 ?_; (first | refine o_sv rfl (by decide) ?_ | (refine k_load ?_; (refine o_val (v_load rfl rfl rfl rfl) rfl rfl (by decide) ?_)) | (refine k_field ?_; (refine o_val (v_field rfl rfl) rfl rfl (by decide) ?_)) | (refine k_blt ?_; (refine o_val (v_lenm rfl) rfl rfl (by decide) ?_)) | (refine k_call ?_; ((refine o_rel1 (next_r l k 4 500 hl hk (by decide)) rfl rfl (by decide) ?_; rintro ⟨v0, kt0⟩ ⟨hv1, hv2, hv3⟩; simp only at hv1 hv2 hv3 ⊢))))) | (refine k_ops ?_; (first | refine o_go (by first | exact .inl rfl | exact .inr ⟨_, _, _, rfl, rfl, rfl⟩) ?_ | refine o_nil ?_)) | (refine k_run ?_; (first | refine r_seq ?_ | refine r_region ?_ | refine r_block ?_)))
  refine r_loop ?_
  refine r_less (r_inv (fun q : Int × Int × List Node × Nat => ⟨100, [(0, .ptr (0, 500) 0), (1, .ptr (0, 501) 0), (4, I .i64 ts.length), (5, I .i64 q.2.1), (6, I .i64 q.1), (100500, .al (0, 500) (1, 500)), (100501, .al (0, 501) (1, 8))], [(600, .row 55 4 (q.2.2.1.map Node.cs)), (500, tapeB l q.2.2.2), (501, .box [.d A, .d (.slice (ts.map fun t => [strs t])), .d X, .d R, .ref (0, 600), .d (.lit nilS), .d (.lit nilS)])], upd (upd H (0, 500) .gone) (0, 8) .gone⟩)
    (fun q => 0 ≤ q.1 ∧ q.1 ≤ 4 ∧ 0 ≤ q.2.1 ∧ q.2.1 ≤ ts.length ∧ Grp ts.length q.2.1 q.2.2.1 ∧ q.2.2.1.length ≤ 2 * (4 - q.1) ∧ q.2.2.2 ≤ 120) (fun q => q.1.toNat) ?_ ⟨v0, 0, [], kt0⟩ ⟨hv1, by simp only; omega, by simp only; omega, by simp only; omega, .nil, by simp only [List.length_nil]; omega, hv3⟩) rfl rfl
  intro ⟨c, p, ns, kt⟩ ⟨h1, h2, h3, h4, h5, h6, h7⟩ ih
  simp only at h1 h2 h3 h4 h5 h6 h7 ih ⊢
  by_cases hlt : 0 < c ∧ p < ts.length
  · repeat' (first | (refine k_op1 ?_; (first | refine o_sv rfl (by decide) ?_ | (refine k_load ?_; (refine o_val (v_load rfl rfl rfl rfl) rfl rfl (by decide) ?_)) | (refine k_field ?_; (refine o_val (v_field rfl rfl) rfl rfl (by decide) ?_)) | (refine k_bin ?_; (first | refine o_val (v_add (wi64 (by have h0 := tn0 (l := l) (k := tnext l kt4) (n := (p + v1 + 1 + v2 - (p + v1 + v4))) (by omega); omega) (by have h0 := tn1 (l := l) (k := tnext l kt4) (n := (p + v1 + 1 + v2 - (p + v1 + v4))) (by omega); omega))) rfl rfl (by decide) ?_ | refine o_val (v_add (wi64 (by omega) (by omega))) rfl rfl (by decide) ?_ | refine o_val (v_sub (wi64 (by omega) (by omega))) rfl rfl (by decide) ?_)) | (refine k_blt ?_; (refine o_val (v_lenrm rfl) rfl rfl (by decide) ?_)) | (refine k_call ?_; (first | (refine o_rel1 (next_r l kt 2 500 hl h7 (by decide)) rfl rfl (by decide) ?_; rintro ⟨v1, kt1⟩ ⟨hu1, hw1, hx1⟩; simp only at hu1 hw1 hx1 ⊢) | (refine o_rel1 (next_r l kt1 ((ts.length : Int) - (p + v1)) 500 hl hx1 (by omega)) rfl rfl (by decide) ?_; rintro ⟨v2, kt2⟩ ⟨hu2, hw2, hx2⟩; simp only at hu2 hw2 hx2 ⊢) | (refine o_rel1 (next_r l (tnext l kt2) 2 500 hl (tnext_le hl hx2) (by decide)) rfl rfl (by decide) ?_; rintro ⟨v3, kt3⟩ ⟨hu3, hw3, hx3⟩; simp only at hu3 hw3 hx3 ⊢) | (refine o_rel1 (next_r l kt3 (p + v1 + 1 + v2 - (p + v1)) 500 hl hx3 (by omega)) rfl rfl (by decide) ?_; rintro ⟨v4, kt4⟩ ⟨hu4, hw4, hx4⟩; simp only at hu4 hw4 hx4 ⊢))))) | (refine k_ops ?_; (first | refine o_go (by first | exact .inl rfl | exact .inr ⟨_, _, _, rfl, rfl, rfl⟩) ?_ | refine o_nil ?_ | refine o_no rfl rfl (by decide) ?_ | refine o_casep rfl rfl (fun _ => ?_) (fun _ => ?_))) | (refine k_run ?_; (first | refine r_seq ?_ | refine r_region ?_ | refine r_false rfl ?_ | refine r_skip ?_ | refine r_block ?_ | refine r_tr ?_ | refine r_inBlock ?_ | refine r_if rfl (fun _ => ?_) (fun _ => ?_) | refine r_exit rfl ?_)) | (refine k_tr ?_; (first | (refine kt_end ?_; refine t_end mix (by kernel_rfl) ?_) | refine t_sv rfl (by first | exact rfl | exact ⟨_, rfl, rfl, rfl⟩) (by decide) ?_ | (refine kt_load ?_; (first | refine t_val (v_load rfl rfl rfl rfl) (by first | exact rfl | exact ⟨_, rfl, rfl, rfl⟩) rfl rfl (by decide) ?_ | refine t_val (v_loade rfl rfl rfl) (by first | exact rfl | exact ⟨_, rfl, rfl, rfl⟩) rfl rfl (by decide) ?_)) | (refine kt_field ?_; (refine t_val (v_field rfl rfl) (by first | exact rfl | exact ⟨_, rfl, rfl, rfl⟩) rfl rfl (by decide) ?_)) | (refine kt_index ?_; (first | refine t_val (v_index rfl (tn0 (by decide)) (idxi (atL_some (l := labL) (tn0 (by decide)) (Int.lt_of_lt_of_le (tn1 (by decide)) (by decide)))) rfl) (by first | exact rfl | exact ⟨_, rfl, rfl, rfl⟩) rfl rfl (by decide) ?_ | refine t_val (v_index rfl (tn0 (by decide)) (idxi (atL_some (l := labM) (tn0 (by decide)) (Int.lt_of_lt_of_le (tn1 (by decide)) (by decide)))) rfl) (by first | exact rfl | exact ⟨_, rfl, rfl, rfl⟩) rfl rfl (by decide) ?_)) | (refine kt_bin ?_; (first | refine t_val (v_add (wi64 (by have h0 := tn0 (l := l) (k := tnext l kt4) (n := (p + v1 + 1 + v2 - (p + v1 + v4))) (by omega); omega) (by have h0 := tn1 (l := l) (k := tnext l kt4) (n := (p + v1 + 1 + v2 - (p + v1 + v4))) (by omega); omega))) (by first | exact rfl | exact ⟨_, rfl, rfl, rfl⟩) rfl rfl (by decide) ?_ | refine t_val (v_sub (wi64 (by omega) (by omega))) (by first | exact rfl | exact ⟨_, rfl, rfl, rfl⟩) rfl rfl (by decide) ?_)) | (refine kt_blt ?_; (first | refine t_app1 (by first | exact rfl | exact ⟨_, rfl, rfl, rfl⟩) rfl rfl (⟨atL labM (tnum l kt4 2), p + v1 + v4, p + v1 + v4 + 1 + tnum l (tnext l kt4) (p + v1 + 1 + v2 - (p + v1 + v4)), (ns.length : Int)⟩ : Node) rfl rfl rfl rfl rfl rfl rfl (by decide) (by simp; omega) ?_ | refine t_app1 (by first | exact rfl | exact ⟨_, rfl, rfl, rfl⟩) rfl rfl (⟨atL labL (tnum l kt2 2), p + v1, p + v1 + 1 + v2, -1⟩ : Node) rfl rfl rfl rfl rfl rfl rfl (by decide) (by omega) ?_)) | (refine kt_call ?_; (first | refine t_eff (next_s l kt2 2 0 500 hl hx2 (by decide)) (by first | exact rfl | exact ⟨_, rfl, rfl, rfl⟩) rfl rfl (by decide) ?_ | refine t_eff (next_s l kt4 2 0 500 hl hx4 (by decide)) (by first | exact rfl | exact ⟨_, rfl, rfl, rfl⟩) rfl rfl (by decide) ?_ | refine t_eff (next_s l (tnext l kt4) (p + v1 + 1 + v2 - (p + v1 + v4)) 0 500 hl (tnext_le hl hx4) (by omega)) (by first | exact rfl | exact ⟨_, rfl, rfl, rfl⟩) rfl rfl (by decide) ?_)) | (refine kt_store ?_; (refine t_storer (by first | exact rfl | exact ⟨_, rfl, rfl, rfl⟩) rfl rfl rfl rfl rfl ?_)) | (refine kt_build ?_; (refine t_build (by first | exact rfl | exact ⟨_, rfl, rfl, rfl⟩) rfl rfl rfl rfl rfl rfl rfl (by decide) ?_)) | (refine kt_lit ?_; (first | refine t_lit (ys := labM.map fun x => [Dstr x]) (by first | exact rfl | exact ⟨_, rfl, rfl, rfl⟩) rfl rfl rfl rfl rfl rfl rfl rfl (by decide) ?_ | refine t_lit (ys := labL.map fun x => [Dstr x]) (by first | exact rfl | exact ⟨_, rfl, rfl, rfl⟩) rfl rfl rfl rfl rfl rfl rfl rfl (by decide) ?_ | refine t_lit (by first | exact rfl | exact ⟨_, rfl, rfl, rfl⟩) rfl rfl rfl rfl rfl rfl rfl rfl (by decide) ?_)))))
    all_goals try (exfalso; omega)
    all_goals try (refine r_freeze 600 rfl ?_; refine r_give 501 0 8 (raw := .box [.d A, .d (.slice (ts.map fun t => [strs t])), .d X, .d R, .d (.slice (ns.map Node.cs)), .d (.lit nilS), .d (.lit nilS)]) rfl rfl rfl rfl rfl ?_; refine r_give 500 0 500 (raw := tapeB l kt1) rfl rfl rfl rfl rfl ?_; exact r_end Tryz.func51 _ (res_none rfl) ⟨(ns, p, kt1), ⟨h5, by simp only; omega, hx1⟩, rfl, give2 H _ _⟩)
    all_goals try (refine r_ren 61 600 rfl rfl ?_; exact r_less (ih ⟨c - 1, p + v1 + 1 + v2, ns ++ [(⟨atL labL (tnum l kt2 2), p + v1, p + v1 + 1 + v2, -1⟩ : Node)], kt3⟩ ⟨(by simp only; omega), (by simp only; omega), (by simp only; omega), (by simp only; omega), .top (b := p + v1) (e := p + v1 + 1 + v2) h5 (by omega) (by omega) (by omega) (labL_size _ (atL_mem (l := labL) (tn0 (by decide)) (Int.lt_of_lt_of_le (tn1 (by decide)) (by decide)))), by simp only [List.length_append, List.length_cons, List.length_nil]; omega, hx3⟩ (by simp only; omega)) rfl rfl)
    all_goals try (have ha0 := tn0 (l := l) (k := tnext l kt4) (n := (p + v1 + 1 + v2 - (p + v1 + v4))) (by omega); have ha1 := tn1 (l := l) (k := tnext l kt4) (n := (p + v1 + 1 + v2 - (p + v1 + v4))) (by omega); refine r_ren 96 600 rfl rfl ?_; exact r_less (ih ⟨c - 1, p + v1 + 1 + v2, ns ++ [(⟨atL labL (tnum l kt2 2), p + v1, p + v1 + 1 + v2, -1⟩ : Node)] ++ [(⟨atL labM (tnum l kt4 2), p + v1 + v4, p + v1 + v4 + 1 + tnum l (tnext l kt4) (p + v1 + 1 + v2 - (p + v1 + v4)), (ns.length : Int)⟩ : Node)], tnext l (tnext l kt4)⟩ ⟨(by simp only; omega), (by simp only; omega), (by simp only; omega), (by simp only; omega), .both (b := p + v1) (e := p + v1 + 1 + v2) (m := p + v1 + v4) (me := p + v1 + v4 + 1 + tnum l (tnext l kt4) (p + v1 + 1 + v2 - (p + v1 + v4))) h5 (by omega) (by omega) (by omega) (labL_size _ (atL_mem (l := labL) (tn0 (by decide)) (Int.lt_of_lt_of_le (tn1 (by decide)) (by decide)))) (by omega) (by omega) (by omega) (labM_size _ (atL_mem (l := labM) (tn0 (by decide)) (Int.lt_of_lt_of_le (tn1 (by decide)) (by decide)))), by simp only [List.length_append, List.length_cons, List.length_nil]; omega, tnext_le hl (tnext_le hl hx4)⟩ (by simp only; omega)) rfl rfl)
  · repeat' (first | (refine k_op1 ?_; (refine o_sv rfl (by decide) ?_)) | (refine k_ops ?_; (first | refine o_go (by first | exact .inl rfl | exact .inr ⟨_, _, _, rfl, rfl, rfl⟩) ?_ | refine o_nil ?_ | refine o_no rfl rfl (by decide) ?_ | refine o_casep rfl rfl (fun _ => ?_) (fun _ => ?_))) | (refine k_run ?_; (first | refine r_seq ?_ | refine r_region ?_ | refine r_false rfl ?_ | refine r_skip ?_ | refine r_block ?_ | refine r_if rfl (fun _ => ?_) (fun _ => ?_) | refine r_exit rfl ?_)))
    all_goals try (exfalso; omega)
    all_goals try (refine r_freeze 600 rfl ?_; refine r_give 501 0 8 (raw := .box [.d A, .d (.slice (ts.map fun t => [strs t])), .d X, .d R, .d (.slice (ns.map Node.cs)), .d (.lit nilS), .d (.lit nilS)]) rfl rfl rfl rfl rfl ?_; refine r_give 500 0 500 (raw := tapeB l kt) rfl rfl rfl rfl rfl ?_; exact r_end Tryz.func51 _ (res_none rfl) ⟨(ns, p, kt), ⟨h5, by simp only; omega, h7⟩, rfl, give2 H _ _⟩)
end Go.Proofs.YtonhfccmeammbaaGreatDoor
namespace Go.Proofs.YtonhfccmeammbaaGreatDoor
open Go.Ab
set_option maxHeartbeats 2000000
attribute [local irreducible] Run Ops Op1 Does Val Tr PureF Eff1 NF Rel
variable {f : FuncId} {R : Post} {k : List Item} {all : Array Oper} {l' : List Oper} {n : Nat} {tm : List (Nat × PV)} {hp : Hp} {up : Hf} {d : Nat} {ty : TypeId} {pos : String} {aft : Array Edge} {gd : Option (Nat × Bool)} {args : List Operand} {ats : Array TypeId}
/-- a number off the tape -/
theorem o_nx {l : List Int} {kt ms : Nat} {x : Int} (hl : l.length ≤ 120) (hev : St.evs ⟨n, tm, hp, up⟩ args = some [.ptr (0, ms) 0, I .i64 x]) (hb : Ab.look hp ms = some (tapeB l kt)) (hd : d < n)
    (hx : 0 < x ∧ x ≤ 9223372036854775807) (hk : kt ≤ 120) (h : 0 ≤ tnum l kt x → tnum l kt x < x → tnext l kt ≤ 120 → Ops Tryz.prog f R all l' k ⟨n, (d, I .i64 (tnum l kt x)) :: tm, (ms, tapeB l (tnext l kt)) :: hp, up⟩) :
    Op1 Tryz.prog f R all ⟨some d, .call ⟨.value (.func 26), args.toArray, ats⟩, ty, pos, aft, gd⟩ l' k ⟨n, tm, hp, up⟩ :=
  o_eff1 (next_s l kt x 0 ms hl hk (by omega)) hev hb hd (h (tn0 hx.1) (tn1 hx.1) (tnext_le hl hk))
theorem t_nx {id : Nat} {ops : List Oper} {s0 : St} {done : List Eff} {gr : List (Nat × PV)} {l : List Int} {kt ms : Nat} {x : Int} (hl : l.length ≤ 120) (hg : GOK ops.toArray gd gr ⟨n, tm, hp, up⟩) (hev : St.evs ⟨n, tm, hp, up⟩ args = some [.ptr (0, ms) 0, I .i64 x]) (hb : Ab.look hp ms = some (tapeB l kt)) (hd : d < n)
    (hx : 0 < x ∧ x ≤ 9223372036854775807) (hk : kt ≤ 120)
    (h : 0 ≤ tnum l kt x → tnum l kt x < x → tnext l kt ≤ 120 → Tr Tryz.prog f R id ops k s0 (done ++ [⟨gr ++ rd (args.zip [.ptr (0, ms) 0, I .i64 x]), [((0, ms), tapeB l kt)], [], [(d, I .i64 (tnum l kt x))], [((0, ms), tapeB l (tnext l kt))]⟩]) ⟨n, (d, I .i64 (tnum l kt x)) :: tm, (ms, tapeB l (tnext l kt)) :: hp, up⟩ l') :
    Tr Tryz.prog f R id ops k s0 done ⟨n, tm, hp, up⟩ (⟨some d, .call ⟨.value (.func 26), args.toArray, ats⟩, ty, pos, aft, gd⟩ :: l') :=
  t_eff (next_s l kt x 0 ms hl hk (by omega)) hg hev hb hd (h (tn0 hx.1) (tn1 hx.1) (tnext_le hl hk))
end Go.Proofs.YtonhfccmeammbaaGreatDoor
namespace Go.Proofs.YtonhfccmeammbaaGreatDoor
open Go.Ab
set_option maxHeartbeats 20000000
attribute [local irreducible] Run Ops Op1 Does Val Tr PureF Eff1 NF Rel tnum tnext

def idxL : List Int := [0, 1, 0, 2, 3, 4, 1, 5]
def yearL : List Str := [⟨#[49]⟩, ⟨#[50]⟩, ⟨#[]⟩]
def numL : List Str := [⟨#[49]⟩, ⟨#[50]⟩]
def SmQ (l : List Pair) : Prop := l.length ≤ 10 ∧ ∀ p ∈ l, p.name.size ≤ 10 ∧ p.value.size ≤ 10
/-- a document that is made -/
structure Doc (most : Int) (c : Corpus) : Prop where
  attrs : c.attrs = attrL
  tok0 : 0 < c.tokens.length
  tok1 : (c.tokens.length : Int) ≤ most
  tok : ∀ t ∈ c.tokens, t.length ≤ 10 ∧ ∀ v ∈ t, v.size ≤ 10
  ntexts : c.texts.length ≤ 10
  text : ∀ t ∈ c.texts, t.name.size ≤ 10 ∧ SmQ t.meta_ ∧ 0 ≤ t.b ∧ t.b ≤ 1000 ∧ 0 ≤ t.e ∧ t.e ≤ 1000
  nregs : c.regions.length ≤ 10
  reg : ∀ x ∈ c.regions, x.type.size ≤ 10 ∧ SmQ x.keys ∧ 0 ≤ x.b ∧ x.b ≤ 1000 ∧ 0 ≤ x.e ∧ x.e ≤ 1000
  nodes : ∃ at_, Grp c.tokens.length at_ c.nodes
  nnodes : c.nodes.length ≤ 2000
  heads : Forest c.tokens.length c.heads c.rels
  rels : ∀ s ∈ c.rels, s.size ≤ 10

theorem SmQ.p {l : List Pair} (h : SmQ l) : SmP l := ⟨by have := h.1; omega, fun p hp => by have := h.2 p hp; omega⟩
def RegOK (x : Region) : Prop := x.type.size ≤ 10 ∧ SmQ x.keys ∧ 0 ≤ x.b ∧ x.b ≤ 1000 ∧ 0 ≤ x.e ∧ x.e ≤ 1000
theorem smq_nil : SmQ [] := ⟨by simp, by simp⟩
theorem smq_one {a b : Str} (ha : a.size ≤ 10) (hb : b.size ≤ 10) : SmQ [⟨a, b⟩] := ⟨by simp, by intro p hp; simp only [List.mem_cons, List.not_mem_nil, or_false] at hp; subst hp; exact ⟨ha, hb⟩⟩
theorem yearL_size : ∀ s ∈ yearL, s.size ≤ 10 := by simp only [yearL, List.mem_cons, List.not_mem_nil, or_false]; rintro s (rfl | rfl | rfl) <;> decide
theorem numL_size : ∀ s ∈ numL, s.size ≤ 10 := by simp only [numL, List.mem_cons, List.not_mem_nil, or_false]; rintro s (rfl | rfl) <;> decide
theorem atL_size {l : List Str} (h : ∀ s ∈ l, s.size ≤ 10) (i : Int) : (atL l i).size ≤ 10 := by
  unfold atL
  rw [List.getD]
  cases hx : l[i.toNat]? with
  | none => decide
  | some x => exact h x (List.mem_of_getElem? hx)
theorem wordL_size : ∀ s ∈ wordL, s.size ≤ 10 := by simp only [wordL, List.mem_cons, List.not_mem_nil, or_false]; rintro s (rfl | rfl | rfl | rfl | rfl | rfl) <;> decide
theorem tagL_size : ∀ s ∈ tagL, s.size ≤ 10 := by simp only [tagL, List.mem_cons, List.not_mem_nil, or_false]; rintro s (rfl | rfl) <;> decide
theorem featL_size : ∀ s ∈ featL, s.size ≤ 10 := by simp only [featL, List.mem_cons, List.not_mem_nil, or_false]; rintro s (rfl | rfl | rfl | rfl) <;> decide
theorem typeL_size : ∀ s ∈ typeL, s.size ≤ 10 := by simp only [typeL, List.mem_cons, List.not_mem_nil, or_false]; rintro s (rfl | rfl | rfl) <;> decide
theorem idx_range (i : Int) : 0 ≤ oAt idxL i ∧ oAt idxL i < wordL.length := by
  have hw : wordL.length = 6 := rfl
  have h : ∀ x ∈ idxL, 0 ≤ x ∧ x < 6 := by simp only [idxL, List.mem_cons, List.not_mem_nil, or_false]; rintro x (rfl | rfl | rfl | rfl | rfl | rfl | rfl | rfl) <;> decide
  rw [hw, oAt, List.getD]
  cases hx : idxL[i.toNat]? with
  | none => decide
  | some x => exact h x (List.mem_of_getElem? hx)
def tokOf (x : Int) : List Str := [atL wordL (oAt idxL (x % 8)), atL tagL (x / 8 % 2), atL featL (x / 12)]
theorem tokOf_ok (x : Int) : (tokOf x).length ≤ 10 ∧ ∀ v ∈ tokOf x, v.size ≤ 10 := by
  refine ⟨by simp [tokOf], ?_⟩
  simp only [tokOf, List.mem_cons, List.not_mem_nil, or_false]
  rintro v (rfl | rfl | rfl)
  · exact atL_size wordL_size _
  · exact atL_size tagL_size _
  · exact atL_size featL_size _
theorem cells_cases {n : Nat} {hs : List Int} {rs : List Str} (hn : 0 < n) (h : Forest n hs rs) : (cellH hs = .d (.lit nilS) ∧ cellS rs = .d (.lit nilS) ∧ hs = [] ∧ rs = []) ∨ (cellH hs = .d (ints hs) ∧ cellS rs = .d (strs rs)) := by
  rcases h with ⟨rfl, rfl⟩ | ⟨h1, h2, _⟩
  · exact .inl ⟨rfl, rfl, rfl, rfl⟩
  · right
    cases hs with
    | nil => simp at h1; omega
    | cons a b =>
      cases rs with
      | nil => simp at h2; omega
      | cons c d => exact ⟨rfl, rfl⟩

theorem mkDoc {most : Int} {ts : List (List Str)} {tx : List Text} {rs : List Region} {ns : List Node} {hs : List Int} {rl : List Str} (n1 : ∃ at_, Grp ts.length at_ ns) (n2 : ns.length ≤ 2000) (h3 : ∀ t ∈ ts, t.length ≤ 10 ∧ ∀ v ∈ t, v.size ≤ 10)
    (h0 : 0 < ts.length) (h1 : (ts.length : Int) ≤ most) (h4 : tx.length ≤ 10) (h5 : ∀ t ∈ tx, t.name.size ≤ 10 ∧ SmQ t.meta_ ∧ 0 ≤ t.b ∧ t.b ≤ 1000 ∧ 0 ≤ t.e ∧ t.e ≤ 1000) (g1 : rs.length ≤ 10) (g2 : ∀ x ∈ rs, RegOK x) (d1 : Forest ts.length hs rl) (d2 : ∀ s ∈ rl, s.size ≤ 10) :
    Doc most ⟨attrL, ts, tx, rs, ns, hs, rl⟩ := ⟨rfl, h0, h1, h3, h4, h5, g1, g2, n1, n2, d1, d2⟩
theorem document_r (l : List Int) (k : Nat) (name : Str) (most : Int) (hl : l.length ≤ 120) (hk : k ≤ 120) (hm : 1 ≤ most ∧ most ≤ 1000) (hname : name.size ≤ 10) :
    Rel Tryz.prog 25 [.ptr (0, 500) 0, S name, I .i64 most] [((0, 500), tapeB l k)]
      (fun x : Corpus × Nat => Doc most x.1 ∧ x.2 ≤ 120) (fun x => x.1.d) (fun x => [((0, 500), tapeB l x.2)]) := by
  refine rel_of fun H hH => ?_
  have hH0 := hH ((0, 500), tapeB l k) (by simp)
  refine spec_of Tryz.func25 (by kernel_rfl) rfl (by simp) ?_
  dsimp only [Tryz.f25]
  refine r_take 500 0 500 hH0 rfl rfl ?_
  refine r_less (tm' := [(0, .ptr (0, 500) 0), (1, S name), (2, I .i64 most), (100500, .al (0, 500) (1, 500))]) (hp' := [(500, tapeB l k)]) ?_ rfl rfl
  repeat' (first | (refine k_op1 ?_; (first | refine o_sv rfl (by decide) ?_ | (refine k_bin ?_; (refine o_val (v_add (wi64 (by omega) (by omega))) rfl rfl (by decide) ?_)) | (refine k_call ?_; (first | (refine o_nx hl rfl rfl (by decide) (by omega) (by assumption) (fun _ _ _ => ?_)) | refine o_fn attributes_s rfl (by decide) ?_)) | (refine k_store ?_; (refine o_store0 rfl rfl rfl rfl rfl rfl ?_)) | (refine k_alloc ?_; (refine o_does (d_alloc rfl rfl (by decide)) ?_)) | (refine k_build ?_; (refine o_buildr rfl rfl rfl rfl rfl rfl (by decide) ?_)) | (refine k_lit ?_; (refine o_lito (ys := [(⟨name, 0, 1 + tnum l k most, []⟩ : Text)].map Text.cs) rfl rfl rfl rfl rfl rfl rfl rfl rfl (by decide) ?_)))) | (refine k_ops ?_; (first | refine o_go (by first | exact .inl rfl | exact .inr ⟨_, _, _, rfl, rfl, rfl⟩) ?_ | refine o_nil ?_)) | (refine k_run ?_; (first | refine r_seq ?_ | refine r_region ?_ | refine r_skip ?_ | refine r_block ?_ | refine r_tr ?_ | refine r_if rfl (fun _ => ?_) (fun _ => ?_))) | (refine k_tr ?_; (first | (refine kt_end ?_; refine t_end mix (by kernel_rfl) ?_) | refine t_sv rfl (by first | exact rfl | exact ⟨_, rfl, rfl, rfl⟩) (by decide) ?_ | (refine kt_load ?_; (first | refine t_val (v_load rfl rfl rfl rfl) (by first | exact rfl | exact ⟨_, rfl, rfl, rfl⟩) rfl rfl (by decide) ?_ | refine t_val (v_loade rfl rfl rfl) (by first | exact rfl | exact ⟨_, rfl, rfl, rfl⟩) rfl rfl (by decide) ?_)) | (refine kt_field ?_; (first | refine t_val (v_field rfl rfl) (by first | exact rfl | exact ⟨_, rfl, rfl, rfl⟩) rfl rfl (by decide) ?_ | refine t_val (v_fieldr rfl rfl) (by first | exact rfl | exact ⟨_, rfl, rfl, rfl⟩) rfl rfl (by decide) ?_)) | (refine kt_index ?_; (first | refine t_val (v_index rfl (tn0 (by decide)) (idxi (atL_some (l := yearL) (tn0 (by decide)) (Int.lt_of_lt_of_le (tn1 (by decide)) (by decide)))) rfl) (by first | exact rfl | exact ⟨_, rfl, rfl, rfl⟩) rfl rfl (by decide) ?_ | refine t_val (v_rindex rfl (by omega) (by simp) rfl) (by first | exact rfl | exact ⟨_, rfl, rfl, rfl⟩) rfl rfl (by decide) ?_)) | (refine kt_call ?_; ((refine t_nx hl (by first | exact rfl | exact ⟨_, rfl, rfl, rfl⟩) rfl rfl (by decide) (by omega) (by assumption) (fun _ _ _ => ?_)))) | (refine kt_store ?_; (refine t_rstorem (⟨name, 0, 1 + tnum l k most, [⟨⟨#[121, 101, 97, 114]⟩, atL yearL (tnum l (tnext l (tnext l k)) 3)⟩]⟩ : Text) (by first | exact rfl | exact ⟨_, rfl, rfl, rfl⟩) rfl rfl rfl rfl rfl rfl rfl rfl rfl ?_)) | (refine kt_build ?_; (refine t_build (by first | exact rfl | exact ⟨_, rfl, rfl, rfl⟩) rfl rfl rfl rfl rfl rfl rfl (by decide) ?_)) | (refine kt_lit ?_; (first | refine t_lit (ys := yearL.map fun x => [Dstr x]) (by first | exact rfl | exact ⟨_, rfl, rfl, rfl⟩) rfl rfl rfl rfl rfl rfl rfl rfl (by decide) ?_ | refine t_lit (ys := [(⟨⟨#[121, 101, 97, 114]⟩, atL yearL (tnum l (tnext l (tnext l k)) 3)⟩ : Pair)].map Pair.cs) (by first | exact rfl | exact ⟨_, rfl, rfl, rfl⟩) rfl rfl rfl rfl rfl rfl rfl rfl (by decide) ?_)))))
  all_goals obtain ⟨N, hN⟩ : ∃ N, 1 + tnum l k most = N := ⟨_, rfl⟩
  all_goals simp only [hN]
  all_goals have hN0 : 1 ≤ N ∧ N ≤ 1000 ∧ N ≤ most := by omega
  all_goals refine r_freeze 26 rfl ?_
  all_goals refine r_cell_row 8 1 600 30 1 rfl rfl rfl rfl ?_
  all_goals refine r_loop ?_
  all_goals
    refine r_less (r_inv (fun q : Nat × List (List Str) × List Text × Nat => ⟨177, [(0, .ptr (0, 500) 0), (6, .ptr (0, 6) 0), (7, I .i64 N), (8, .ptr (0, 8) 0), (9, I .i64 q.1), (100500, .al (0, 500) (1, 500))],
      [(600, .row 30 1 (q.2.1.map fun t => [strs t])), (500, tapeB l q.2.2.2), (8, .box [.d (.slice (attrL.map Attr.cs)), .ref (0, 600), .d (.slice (q.2.2.1.map Text.cs)), .d (.lit nilS), .d (.lit nilS), .d (.lit nilS), .d (.lit nilS)]), (6, .box [.d (.lit nilS), .d (.lit nilS), .d (.lit nilS), .d (.lit nilS), .d (.lit nilS), .d (.lit nilS), .d (.lit nilS)])], upd H (0, 500) .gone⟩)
      (fun q => (q.1 : Int) ≤ N ∧ q.2.1.length = q.1 ∧ (∀ t ∈ q.2.1, t.length ≤ 10 ∧ ∀ v ∈ t, v.size ≤ 10) ∧ q.2.2.1.length ≤ 10 ∧ (∀ t ∈ q.2.2.1, t.name.size ≤ 10 ∧ SmQ t.meta_ ∧ 0 ≤ t.b ∧ t.b ≤ 1000 ∧ 0 ≤ t.e ∧ t.e ≤ 1000) ∧ q.2.2.2 ≤ 120)
      (fun q => (N - q.1).toNat) ?_ ⟨0, [], _, _⟩ ⟨(by simp only; omega), rfl, (by intro t ht; cases ht), (by simp), ?_, (by assumption)⟩) rfl rfl
  rotate_left
  · intro t ht; simp only [List.mem_cons, List.not_mem_nil, or_false] at ht; subst ht; exact ⟨hname, smq_one (by decide) (atL_size yearL_size _), by simp only; omega, by simp only; omega, by simp only; omega, by simp only; omega⟩
  rotate_left
  · intro t ht; simp only [List.mem_cons, List.not_mem_nil, or_false] at ht; subst ht; exact ⟨hname, smq_nil, by simp only; omega, by simp only; omega, by simp only; omega, by simp only; omega⟩
  all_goals intro ⟨i, ts, tx, kt⟩ ⟨h1, h2, h3, h4, h5, h6⟩ ih
  all_goals simp only at h1 h2 h3 h4 h5 h6 ih ⊢
  all_goals by_cases hlt : (i : Int) < N
  case pos | pos =>
    repeat' (first | (refine k_op1 ?_; (first | refine o_sv rfl (by decide) ?_ | (refine k_bin ?_; (refine o_val (v_add (wi64 (by omega) (by omega))) rfl rfl (by decide) ?_)) | (refine k_call ?_; ((refine o_nx hl rfl rfl (by decide) (by omega) (by assumption) (fun _ _ _ => ?_)))))) | (refine k_ops ?_; (first | refine o_go (by first | exact .inl rfl | exact .inr ⟨_, _, _, rfl, rfl, rfl⟩) ?_ | refine o_nil ?_)) | (refine k_run ?_; (first | refine r_seq ?_ | refine r_region ?_ | refine r_skip ?_ | refine r_block ?_ | refine r_tr ?_ | refine r_inBlock ?_ | refine r_if rfl (fun _ => ?_) (fun _ => ?_) | refine r_exit rfl ?_)) | (refine k_tr ?_; (first | (refine kt_end ?_; refine t_end mix (by kernel_rfl) ?_) | refine t_sv rfl (by first | exact rfl | exact ⟨_, rfl, rfl, rfl⟩) (by decide) ?_ | (refine kt_load ?_; (first | refine t_val (v_load rfl rfl rfl rfl) (by first | exact rfl | exact ⟨_, rfl, rfl, rfl⟩) rfl rfl (by decide) ?_ | refine t_val (v_loade rfl rfl rfl) (by first | exact rfl | exact ⟨_, rfl, rfl, rfl⟩) rfl rfl (by decide) ?_)) | (refine kt_field ?_; (refine t_val (v_field rfl rfl) (by first | exact rfl | exact ⟨_, rfl, rfl, rfl⟩) rfl rfl (by decide) ?_)) | (refine kt_index ?_; (refine t_val (v_index rfl (by omega) (idxi (oAt_some (l := idxL) (by omega) (by have : idxL.length = 8 := rfl; omega))) rfl) (by first | exact rfl | exact ⟨_, rfl, rfl, rfl⟩) rfl rfl (by decide) ?_)) | (refine kt_bin ?_; (first | refine t_val (v_rem (by omega) (by omega)) (by first | exact rfl | exact ⟨_, rfl, rfl, rfl⟩) rfl rfl (by decide) ?_ | refine t_val (v_quo (by omega) (by omega) (wi64 (by omega) (by omega))) (by first | exact rfl | exact ⟨_, rfl, rfl, rfl⟩) rfl rfl (by decide) ?_)) | (refine kt_blt ?_; (refine t_app1 (by first | exact rfl | exact ⟨_, rfl, rfl, rfl⟩) rfl rfl (tokOf (tnum l kt 48)) rfl rfl rfl rfl rfl rfl rfl (by decide) (by omega) ?_)) | (refine kt_call ?_; (first | refine t_fn (word_s (idx_range _).1 (idx_range _).2) (by first | exact rfl | exact ⟨_, rfl, rfl, rfl⟩) rfl (by decide) ?_ | refine t_fn (tag_s (by omega) (by have : tagL.length = 2 := rfl; omega)) (by first | exact rfl | exact ⟨_, rfl, rfl, rfl⟩) rfl (by decide) ?_ | refine t_fn (feat_s (by omega) (by have : featL.length = 4 := rfl; omega)) (by first | exact rfl | exact ⟨_, rfl, rfl, rfl⟩) rfl (by decide) ?_)) | (refine kt_store ?_; (refine t_storer (by first | exact rfl | exact ⟨_, rfl, rfl, rfl⟩) rfl rfl rfl rfl rfl ?_)) | (refine kt_lit ?_; (first | refine t_lit (ys := (tokOf (tnum l kt 48)).map fun x => [Dstr x]) (by first | exact rfl | exact ⟨_, rfl, rfl, rfl⟩) rfl rfl rfl rfl rfl rfl rfl rfl (by decide) ?_ | refine t_lit (ys := idxL.map fun x => [Dint x]) (by first | exact rfl | exact ⟨_, rfl, rfl, rfl⟩) rfl rfl rfl rfl rfl rfl rfl rfl (by decide) ?_ | refine t_lit (by first | exact rfl | exact ⟨_, rfl, rfl, rfl⟩) rfl rfl rfl rfl rfl rfl rfl rfl (by decide) ?_)))))
    all_goals try (exfalso; omega)
    all_goals refine r_ren 66 600 rfl rfl ?_
    all_goals exact r_less (ih ⟨i + 1, ts ++ [tokOf (tnum l kt 48)], tx, tnext l kt⟩ ⟨(by simp only; omega), (by simp only [List.length_append, List.length_cons, List.length_nil]; omega), (by intro t ht; rcases List.mem_append.1 ht with ht | ht; exact h3 t ht; simp only [List.mem_cons, List.not_mem_nil, or_false] at ht; subst ht; exact tokOf_ok _), h4, h5, (by assumption)⟩ (by simp only; omega)) rfl rfl
  case neg | neg =>
    obtain hiN : (i : Int) = N := by omega
    refine r_freeze 600 rfl ?_
    repeat' (first | (refine k_op1 ?_; (first | refine o_nil_row (d := 11) rfl rfl rfl (by decide) ?_ | refine o_sv rfl (by decide) ?_ | (refine k_call ?_; ((refine o_nx hl rfl rfl (by decide) (by omega) (by assumption) (fun _ _ _ => ?_)))))) | (refine k_ops ?_; (first | refine o_go (by first | exact .inl rfl | exact .inr ⟨_, _, _, rfl, rfl, rfl⟩) ?_ | refine o_nil ?_)) | (refine k_run ?_; (first | refine r_seq ?_ | refine r_region ?_ | refine r_skip ?_ | refine r_block ?_ | refine r_tr ?_ | refine r_if rfl (fun _ => ?_) (fun _ => ?_) | refine r_exit rfl ?_)) | (refine k_tr ?_; (first | refine t_sv rfl (by first | exact rfl | exact ⟨_, rfl, rfl, rfl⟩) (by decide) ?_ | (refine kt_load ?_; (refine t_val (v_load rfl rfl rfl rfl) (by first | exact rfl | exact ⟨_, rfl, rfl, rfl⟩) rfl rfl (by decide) ?_)) | (refine kt_field ?_; (refine t_val (v_field rfl rfl) (by first | exact rfl | exact ⟨_, rfl, rfl, rfl⟩) rfl rfl (by decide) ?_)) | (refine kt_lit ?_; (refine t_lit (by first | exact rfl | exact ⟨_, rfl, rfl, rfl⟩) rfl rfl rfl rfl rfl rfl rfl rfl (by decide) ?_)))))
    all_goals try (exfalso; omega)
    refine r_loop ?_
    refine r_less (r_inv (fun q : Int × List Region × Nat => ⟨177, [(0, .ptr (0, 500) 0), (6, .ptr (0, 6) 0), (7, I .i64 N), (8, .ptr (0, 8) 0), (11, .ref (0, 11)), (12, I .i64 q.1), (100500, .al (0, 500) (1, 500))],
      [(11, .row 84 4 (q.2.1.map Region.cs)), (500, tapeB l q.2.2), (8, .box [.d (.slice (attrL.map Attr.cs)), .d (.slice (ts.map fun t => [strs t])), .d (.slice (tx.map Text.cs)), .d (.lit nilS), .d (.lit nilS), .d (.lit nilS), .d (.lit nilS)]), (6, .box [.d (.lit nilS), .d (.lit nilS), .d (.lit nilS), .d (.lit nilS), .d (.lit nilS), .d (.lit nilS), .d (.lit nilS)])], upd H (0, 500) .gone⟩)
      (fun q => 0 ≤ q.1 ∧ q.1 ≤ 5 ∧ q.2.1.length ≤ 5 - q.1 ∧ (∀ x ∈ q.2.1, x.type.size ≤ 10 ∧ SmQ x.keys ∧ 0 ≤ x.b ∧ x.b ≤ 1000 ∧ 0 ≤ x.e ∧ x.e ≤ 1000) ∧ q.2.2 ≤ 120)
      (fun q => q.1.toNat) ?_ ⟨_, [], _⟩ ⟨(by assumption), (by simp only; omega), (by simp only [List.length_nil]; omega), (by intro t ht; cases ht), (by assumption)⟩) rfl rfl
    intro ⟨m, rg, ku⟩ ⟨g1, g2, g3, g4, g5⟩ ih2
    simp only at g1 g2 g3 g4 g5 ih2 ⊢
    by_cases hm0 : 0 < m
    · repeat' (first | (refine k_op1 ?_; (first | refine o_sv rfl (by decide) ?_ | (refine k_load ?_; (refine o_val (v_loade rfl rfl rfl) rfl rfl (by decide) ?_)) | (refine k_field ?_; (refine o_val (v_field rfl rfl) rfl rfl (by decide) ?_)) | (refine k_index ?_; (refine o_val (v_index rfl (tn0 (by decide)) (idxi (atL_some (l := numL) (tn0 (by decide)) (Int.lt_of_lt_of_le (tn1 (by decide)) (by decide)))) rfl) rfl rfl (by decide) ?_)) | (refine k_bin ?_; (first | refine o_val (v_add (wi64 (by omega) (by omega))) rfl rfl (by decide) ?_ | refine o_val (v_sub (wi64 (by omega) (by omega))) rfl rfl (by decide) ?_)) | (refine k_blt ?_; (refine o_val (v_lenrm rfl) rfl rfl (by decide) ?_)) | (refine k_call ?_; (first | (refine o_nx hl rfl rfl (by decide) (by omega) (by assumption) (fun _ _ _ => ?_)) | refine o_fn (type_s _) rfl (by decide) ?_)) | (refine k_store ?_; (refine o_store0 rfl rfl rfl rfl rfl rfl ?_)) | (refine k_alloc ?_; (refine o_does (d_alloc rfl rfl (by decide)) ?_)) | (refine k_build ?_; (refine o_buildr rfl rfl rfl rfl rfl rfl (by decide) ?_)) | (refine k_lit ?_; (first | refine o_lit (ys := numL.map fun x => [Dstr x]) rfl rfl rfl rfl rfl rfl rfl rfl (by decide) ?_ | refine o_lit rfl rfl rfl rfl rfl rfl rfl rfl (by decide) ?_)))) | (refine k_ops ?_; (first | refine o_go (by first | exact .inl rfl | exact .inr ⟨_, _, _, rfl, rfl, rfl⟩) ?_ | refine o_nil ?_)) | (refine k_run ?_; (first | refine r_seq ?_ | refine r_region ?_ | refine r_skip ?_ | refine r_block ?_ | refine r_if rfl (fun _ => ?_) (fun _ => ?_) | refine r_exit rfl ?_)))
      all_goals try (exfalso; omega)
      · skip
        refine r_loop ?_
        refine r_less (r_inv (fun q : Nat × Bool × Region × Nat => ⟨177, [(0, .ptr (0, 500) 0), (6, .ptr (0, 6) 0), (7, I .i64 N), (8, .ptr (0, 8) 0), (11, .ref (0, 11)), (12, I .i64 m), (14, .ptr (0, 14) 0), (15, B q.2.1), (101, .ref (0, 11)), (102, I .i64 rg.length), (103, I .i64 q.1), (100500, .al (0, 500) (1, 500))],
          [(11, .row 84 4 (rg.map Region.cs)), (500, tapeB l q.2.2.2), (14, .box [S q.2.2.1.type, I .i64 q.2.2.1.b, I .i64 q.2.2.1.e, .d (.slice (q.2.2.1.keys.map Pair.cs))]), (8, .box [.d (.slice (attrL.map Attr.cs)), .d (.slice (ts.map fun t => [strs t])), .d (.slice (tx.map Text.cs)), .d (.lit nilS), .d (.lit nilS), .d (.lit nilS), .d (.lit nilS)]), (6, .box [.d (.lit nilS), .d (.lit nilS), .d (.lit nilS), .d (.lit nilS), .d (.lit nilS), .d (.lit nilS), .d (.lit nilS)])], upd H (0, 500) .gone⟩)
          (fun q => q.1 ≤ rg.length ∧ RegOK q.2.2.1 ∧ q.2.2.2 ≤ 120) (fun q => rg.length - q.1) ?_ ⟨0, false, ⟨_, _, _, [⟨⟨#[110]⟩, atL numL (tnum l (tnext l (tnext l (tnext l (tnext l ku)))) 2)⟩]⟩, _⟩ ⟨Nat.zero_le _, ⟨atL_size typeL_size _, smq_one (by decide) (atL_size numL_size _), (by simp only; omega), (by simp only; omega), (by simp only; omega), (by simp only; omega)⟩, (by assumption)⟩) rfl rfl
        intro ⟨j, cr, rx, kv⟩ ⟨f1, f2, f3⟩ ih3
        simp only at f1 f2 f3 ih3 ⊢
        by_cases hj : j < rg.length
        · obtain ⟨y, hy⟩ : ∃ y, rg[((j : Nat) : Int).toNat]? = some y := by rw [Int.toNat_natCast]; exact ⟨_, List.getElem?_eq_getElem hj⟩
          repeat' (first | (refine k_op1 ?_; (first | refine o_sv rfl (by decide) ?_ | (refine k_load ?_; (first | refine o_val (v_rloadma hy rfl rfl) rfl rfl (by decide) ?_ | refine o_val (v_load rfl rfl rfl rfl) rfl rfl (by decide) ?_ | refine o_val (v_loadp rfl rfl rfl rfl) rfl rfl (by decide) ?_)) | (refine k_field ?_; (refine o_val (v_field rfl rfl) rfl rfl (by decide) ?_)) | (refine k_index ?_; (refine o_val (v_rindex rfl (by omega) (by simp; omega) rfl) rfl rfl (by decide) ?_)) | (refine k_bin ?_; (first | refine o_val (v_add (wi64 (by omega) (by omega))) rfl rfl (by decide) ?_ | refine o_val (v_sub (wi64 (by omega) (by omega))) rfl rfl (by decide) ?_)) | (refine k_blt ?_; (refine o_app1 rfl rfl _ rfl rfl rfl rfl rfl rfl rfl (by decide) (by omega) ?_)) | (refine k_store ?_; (refine o_store0 rfl rfl rfl rfl rfl rfl ?_)) | (refine k_alloc ?_; (refine o_does (d_alloc rfl rfl (by decide)) ?_)) | (refine k_lit ?_; (refine o_lit rfl rfl rfl rfl rfl rfl rfl rfl (by decide) ?_)))) | (refine k_ops ?_; (first | refine o_go (by first | exact .inl rfl | exact .inr ⟨_, _, _, rfl, rfl, rfl⟩) ?_ | refine o_nil ?_ | refine o_no rfl rfl (by decide) ?_ | refine o_no2 rfl rfl (by decide) ?_ | refine o_casep rfl rfl (fun _ => ?_) (fun _ => ?_) | refine o_casen rfl rfl (fun _ => ?_) (fun _ => ?_) | refine o_case rfl rfl (fun _ => ?_) (fun _ => ?_))) | (refine k_run ?_; (first | refine r_meetb 22 15 (fun b22 => ?_) (fun hm22 => ?_) | refine r_seq ?_ | refine r_region ?_ | refine r_skip ?_ | refine r_block ?_ | refine r_inBlock ?_ | refine r_if rfl (fun _ => ?_) (fun _ => ?_) | refine r_cond rfl (fun _ => ?_) (fun _ => ?_) | refine r_exit rfl ?_)))
          all_goals try (exfalso; omega)
          all_goals exact r_less (ih3 ⟨j + 1, _, rx, kv⟩ ⟨(by simp only; omega), f2, f3⟩ (by simp only; omega)) rfl rfl
        · repeat' (first | (refine k_op1 ?_; (first | refine o_sv rfl (by decide) ?_ | (refine k_load ?_; (refine o_val (v_loadp rfl rfl rfl rfl) rfl rfl (by decide) ?_)) | (refine k_bin ?_; (refine o_val (v_sub (wi64 (by omega) (by omega))) rfl rfl (by decide) ?_)) | (refine k_blt ?_; (refine o_app1 rfl rfl rx rfl rfl rfl rfl rfl rfl rfl (by decide) (by omega) ?_)) | (refine k_lit ?_; (refine o_lit rfl rfl rfl rfl rfl rfl rfl rfl (by decide) ?_)))) | (refine k_ops ?_; (first | refine o_go (by first | exact .inl rfl | exact .inr ⟨_, _, _, rfl, rfl, rfl⟩) ?_ | refine o_nil ?_)) | (refine k_run ?_; (first | refine r_seq ?_ | refine r_region ?_ | refine r_skip ?_ | refine r_block ?_ | refine r_inBlock ?_ | refine r_if rfl (fun _ => ?_) (fun _ => ?_) | refine r_cond rfl (fun _ => ?_) (fun _ => ?_) | refine r_exit rfl ?_)))
          all_goals try (exfalso; omega)
          all_goals first
            | exact r_less (ih2 ⟨m - 1, rg, kv⟩ ⟨(by simp only; omega), (by simp only; omega), (by simp only; omega), g4, f3⟩ (by simp only; omega)) rfl rfl
            | (refine r_ren 165 11 rfl rfl ?_; exact r_less (ih2 ⟨m - 1, rg ++ [rx], kv⟩ ⟨(by simp only; omega), (by simp only; omega), (by simp only [List.length_append, List.length_cons, List.length_nil]; omega), (by intro x hx; rcases List.mem_append.1 hx with hx | hx; exact g4 x hx; simp only [List.mem_cons, List.not_mem_nil, or_false] at hx; subst hx; exact f2), f3⟩ (by simp only; omega)) rfl rfl)
      · refine r_cell_row 14 3 601 82 2 rfl rfl rfl rfl ?_
        refine r_freeze 601 rfl ?_
        refine r_loop ?_
        refine r_less (r_inv (fun q : Nat × Bool × Region × Nat => ⟨177, [(0, .ptr (0, 500) 0), (6, .ptr (0, 6) 0), (7, I .i64 N), (8, .ptr (0, 8) 0), (11, .ref (0, 11)), (12, I .i64 m), (14, .ptr (0, 14) 0), (15, B q.2.1), (101, .ref (0, 11)), (102, I .i64 rg.length), (103, I .i64 q.1), (100500, .al (0, 500) (1, 500))],
          [(11, .row 84 4 (rg.map Region.cs)), (500, tapeB l q.2.2.2), (14, .box [S q.2.2.1.type, I .i64 q.2.2.1.b, I .i64 q.2.2.1.e, .d (.slice (q.2.2.1.keys.map Pair.cs))]), (8, .box [.d (.slice (attrL.map Attr.cs)), .d (.slice (ts.map fun t => [strs t])), .d (.slice (tx.map Text.cs)), .d (.lit nilS), .d (.lit nilS), .d (.lit nilS), .d (.lit nilS)]), (6, .box [.d (.lit nilS), .d (.lit nilS), .d (.lit nilS), .d (.lit nilS), .d (.lit nilS), .d (.lit nilS), .d (.lit nilS)])], upd H (0, 500) .gone⟩)
          (fun q => q.1 ≤ rg.length ∧ RegOK q.2.2.1 ∧ q.2.2.2 ≤ 120) (fun q => rg.length - q.1) ?_ ⟨0, false, ⟨_, _, _, []⟩, _⟩ ⟨Nat.zero_le _, ⟨atL_size typeL_size _, smq_nil, (by simp only; omega), (by simp only; omega), (by simp only; omega), (by simp only; omega)⟩, (by assumption)⟩) rfl rfl
        intro ⟨j, cr, rx, kv⟩ ⟨f1, f2, f3⟩ ih3
        simp only at f1 f2 f3 ih3 ⊢
        by_cases hj : j < rg.length
        · obtain ⟨y, hy⟩ : ∃ y, rg[((j : Nat) : Int).toNat]? = some y := by rw [Int.toNat_natCast]; exact ⟨_, List.getElem?_eq_getElem hj⟩
          repeat' (first | (refine k_op1 ?_; (first | refine o_sv rfl (by decide) ?_ | (refine k_load ?_; (first | refine o_val (v_rloadma hy rfl rfl) rfl rfl (by decide) ?_ | refine o_val (v_load rfl rfl rfl rfl) rfl rfl (by decide) ?_ | refine o_val (v_loadp rfl rfl rfl rfl) rfl rfl (by decide) ?_)) | (refine k_field ?_; (refine o_val (v_field rfl rfl) rfl rfl (by decide) ?_)) | (refine k_index ?_; (refine o_val (v_rindex rfl (by omega) (by simp; omega) rfl) rfl rfl (by decide) ?_)) | (refine k_bin ?_; (first | refine o_val (v_add (wi64 (by omega) (by omega))) rfl rfl (by decide) ?_ | refine o_val (v_sub (wi64 (by omega) (by omega))) rfl rfl (by decide) ?_)) | (refine k_blt ?_; (refine o_app1 rfl rfl _ rfl rfl rfl rfl rfl rfl rfl (by decide) (by omega) ?_)) | (refine k_store ?_; (refine o_store0 rfl rfl rfl rfl rfl rfl ?_)) | (refine k_alloc ?_; (refine o_does (d_alloc rfl rfl (by decide)) ?_)) | (refine k_lit ?_; (refine o_lit rfl rfl rfl rfl rfl rfl rfl rfl (by decide) ?_)))) | (refine k_ops ?_; (first | refine o_go (by first | exact .inl rfl | exact .inr ⟨_, _, _, rfl, rfl, rfl⟩) ?_ | refine o_nil ?_ | refine o_no rfl rfl (by decide) ?_ | refine o_no2 rfl rfl (by decide) ?_ | refine o_casep rfl rfl (fun _ => ?_) (fun _ => ?_) | refine o_casen rfl rfl (fun _ => ?_) (fun _ => ?_) | refine o_case rfl rfl (fun _ => ?_) (fun _ => ?_))) | (refine k_run ?_; (first | refine r_meetb 22 15 (fun b22 => ?_) (fun hm22 => ?_) | refine r_seq ?_ | refine r_region ?_ | refine r_skip ?_ | refine r_block ?_ | refine r_inBlock ?_ | refine r_if rfl (fun _ => ?_) (fun _ => ?_) | refine r_cond rfl (fun _ => ?_) (fun _ => ?_) | refine r_exit rfl ?_)))
          all_goals try (exfalso; omega)
          all_goals exact r_less (ih3 ⟨j + 1, _, rx, kv⟩ ⟨(by simp only; omega), f2, f3⟩ (by simp only; omega)) rfl rfl
        · repeat' (first | (refine k_op1 ?_; (first | refine o_sv rfl (by decide) ?_ | (refine k_load ?_; (refine o_val (v_loadp rfl rfl rfl rfl) rfl rfl (by decide) ?_)) | (refine k_bin ?_; (refine o_val (v_sub (wi64 (by omega) (by omega))) rfl rfl (by decide) ?_)) | (refine k_blt ?_; (refine o_app1 rfl rfl rx rfl rfl rfl rfl rfl rfl rfl (by decide) (by omega) ?_)) | (refine k_lit ?_; (refine o_lit rfl rfl rfl rfl rfl rfl rfl rfl (by decide) ?_)))) | (refine k_ops ?_; (first | refine o_go (by first | exact .inl rfl | exact .inr ⟨_, _, _, rfl, rfl, rfl⟩) ?_ | refine o_nil ?_)) | (refine k_run ?_; (first | refine r_seq ?_ | refine r_region ?_ | refine r_skip ?_ | refine r_block ?_ | refine r_inBlock ?_ | refine r_if rfl (fun _ => ?_) (fun _ => ?_) | refine r_cond rfl (fun _ => ?_) (fun _ => ?_) | refine r_exit rfl ?_)))
          all_goals try (exfalso; omega)
          all_goals first
            | exact r_less (ih2 ⟨m - 1, rg, kv⟩ ⟨(by simp only; omega), (by simp only; omega), (by simp only; omega), g4, f3⟩ (by simp only; omega)) rfl rfl
            | (refine r_ren 165 11 rfl rfl ?_; exact r_less (ih2 ⟨m - 1, rg ++ [rx], kv⟩ ⟨(by simp only; omega), (by simp only; omega), (by simp only [List.length_append, List.length_cons, List.length_nil]; omega), (by intro x hx; rcases List.mem_append.1 hx with hx | hx; exact g4 x hx; simp only [List.mem_cons, List.not_mem_nil, or_false] at hx; subst hx; exact f2), f3⟩ (by simp only; omega)) rfl rfl)
    · refine r_freeze 11 rfl ?_
      have hts : 0 < ts.length ∧ ts.length ≤ 1000 := by omega
      repeat' (first | (refine k_op1 ?_; (first | refine o_sv rfl (by decide) ?_ | (refine k_load ?_; (refine o_val (v_loadp rfl rfl rfl rfl) rfl rfl (by decide) ?_)) | (refine k_field ?_; (refine o_val (v_field rfl rfl) rfl rfl (by decide) ?_)) | (refine k_call ?_; (first | (refine o_nx hl rfl rfl (by decide) (by omega) (by assumption) (fun _ _ _ => ?_)) | (refine o_nf (sortRegs_n rg (by omega) (fun x hx => (g4 x hx).2.1.p)) rfl (by decide) (fun p hp => ?_); obtain ⟨rs, ⟨hrs, hrm⟩, rfl⟩ := hp) | (refine o_rel2 (nodes_r l _ _ _ _ ts hl (by assumption) hts) rfl rfl rfl (by decide) ?_; rintro ⟨ns, at_, kt2⟩ ⟨n1, n2, n3⟩; simp only at n1 n2 n3 ⊢) | (refine o_rel2 (heads_r l _ _ _ _ _ ts hl (by assumption) hts) rfl rfl rfl (by decide) ?_; rintro ⟨hs, rl, kt3⟩ ⟨d1, d2, d3⟩; simp only at d1 d2 d3 ⊢; rcases cells_cases hts.1 d1 with ⟨e1, e2, e3, e4⟩ | ⟨e1, e2⟩ <;> simp only [e1, e2]))) | (refine k_store ?_; (refine o_store0 rfl rfl rfl rfl rfl rfl ?_)))) | (refine k_ops ?_; (first | refine o_go (by first | exact .inl rfl | exact .inr ⟨_, _, _, rfl, rfl, rfl⟩) ?_ | refine o_nil ?_)) | (refine k_run ?_; (first | refine r_seq ?_ | refine r_region ?_ | refine r_skip ?_ | refine r_block ?_ | refine r_if rfl (fun _ => ?_) (fun _ => ?_) | refine r_exit rfl ?_)))
      all_goals try (exfalso; omega)
      all_goals first
        | (refine r_give 500 0 500 (raw := tapeB l kt3) rfl rfl rfl rfl rfl ?_
           first
             | exact r_ret Tryz.func25 _ (res_cell rfl rfl rfl rfl rfl rfl) ⟨(⟨attrL, ts, tx, rs, ns, hs, rl⟩, kt3), ⟨mkDoc ⟨at_, n1⟩ n2 h3 hts.1 (by omega) h4 h5 (by omega) (fun x hx => g4 x (hrm x hx)) d1 d2, d3⟩, rfl, upd_upd _ _ _ _⟩
             | (subst e3; subst e4; exact r_ret Tryz.func25 _ (res_cell rfl rfl rfl rfl rfl rfl) ⟨(⟨attrL, ts, tx, rs, ns, [], []⟩, kt3), ⟨mkDoc ⟨at_, n1⟩ n2 h3 hts.1 (by omega) h4 h5 (by omega) (fun x hx => g4 x (hrm x hx)) d1 d2, d3⟩, rfl, upd_upd _ _ _ _⟩))
        | (refine r_give 500 0 500 (raw := tapeB l (tnext l kt2)) rfl rfl rfl rfl rfl ?_
           exact r_ret Tryz.func25 _ (res_cell rfl rfl rfl rfl rfl rfl) ⟨(⟨attrL, ts, tx, rs, ns, [], []⟩, tnext l kt2), ⟨mkDoc ⟨at_, n1⟩ n2 h3 hts.1 (by omega) h4 h5 (by omega) (fun x hx => g4 x (hrm x hx)) (.inl ⟨rfl, rfl⟩) (by intro s hs; cases hs), (by assumption)⟩, rfl, upd_upd _ _ _ _⟩)
end Go.Proofs.YtonhfccmeammbaaGreatDoor
