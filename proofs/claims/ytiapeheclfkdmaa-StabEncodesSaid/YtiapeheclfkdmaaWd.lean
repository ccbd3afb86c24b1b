/- What the index holds, for every list. -/
import Derived.Test.YtiapeheclfkdmaaWc
import Derived.Test.YtiapeheclfkdmaaFg
import Derived.Test.YtiapeheclfkdmaaWb
set_option linter.all false
set_option linter.unusedVariables false
set_option linter.unusedSimpArgs false
namespace Go.Proofs.Ytiapeheclfkdmaa
open Go.Ab Go.Stab
set_option maxHeartbeats 20000000
set_option linter.unusedVariables false
set_option linter.unusedSimpArgs false
attribute [local irreducible] Run Ops Op1 Does Val Tr PureF Eff1 NF Rel EffV EffM

theorem clone_s (l : List Span) (hlen : l.length ≤ 1000000) : PureF Try.prog 45 [.d (spans l)] (.d (spans l)) := by
  refine pure_of fun H => ?_
  refine spec_of Try.func45 (by kernel_rfl) rfl (by simp) ?_
  dsimp only [Try.f45]
  by_cases hl : l = []
  · subst hl
    repeat' (first | (refine k_op1 ?_; (first | refine o_sv rfl (by decide) ?_ | (refine k_blt ?_; (refine o_apps (q := ([] : List Span)) (r := ([] : List Span)) (g := spc) rfl rfl rfl rfl rfl (fun _ => rfl) rfl rfl (by decide) (by simp) ?_)) | (refine k_lit ?_; (refine o_lito rfl rfl rfl rfl rfl rfl rfl rfl rfl (by decide) ?_)) | (refine o_eqnil0 rfl rfl (by decide) (fun b => ?_)))) | (refine k_ops ?_; (first | refine o_go (by first | exact .inl rfl | exact .inr ⟨_, _, _, rfl, rfl, rfl⟩) ?_ | refine o_nil ?_)) | (refine k_run ?_; (first | refine r_seq ?_ | refine r_region ?_ | refine r_skip ?_ | refine r_cond rfl (fun _ => ?_) (fun _ => ?_))))
    · refine r_nil 2 rfl ?_
      exact r_ret Try.func45 _ (res_one rfl rfl) ⟨rfl, rfl⟩
    · refine r_freeze 7 rfl ?_
      exact r_ret Try.func45 _ (res_one rfl rfl) ⟨rfl, rfl⟩
  · repeat' (first | (refine k_op1 ?_; (first | refine o_sv rfl (by decide) ?_ | (refine k_blt ?_; (refine o_apps (q := ([] : List Span)) (r := l) (g := spc) rfl rfl rfl rfl rfl (fun _ => rfl) rfl rfl (by decide) (by simp; omega) ?_)) | (refine k_lit ?_; (refine o_lito rfl rfl rfl rfl rfl rfl rfl rfl rfl (by decide) ?_)) | refine o_val (v_eqnil rfl (by intro h; exact hl (List.map_eq_nil_iff.1 h))) rfl rfl (by decide) ?_)) | (refine k_ops ?_; (first | refine o_go (by first | exact .inl rfl | exact .inr ⟨_, _, _, rfl, rfl, rfl⟩) ?_ | refine o_nil ?_)) | (refine k_run ?_; (first | refine r_seq ?_ | refine r_region ?_ | refine r_false rfl ?_ | refine r_skip ?_)))
    refine r_freeze 7 rfl ?_
    exact r_ret Try.func45 _ (res_one rfl rfl) ⟨rfl, rfl⟩
/-- an index that grows: its ends are a row -/
abbrev gbox (l : List Span) (o : List Nat) : Blk := .box [.d (spans l), .d (nats o), .ref (0, 601)]
abbrev erow (E : List Int) : Blk := .row 3 1 (E.map fun x => [Dint x])
theorem topE_mid (l : List Span) (o : List Nat) {a b i : Nat} (h : a < b) (hi : o[(a + b) / 2]? = some i) : topE l (prt o a b) = max (max (l.getD i (0, 0)).2 (topE l (prt o a ((a + b) / 2)))) (topE l (prt o ((a + b) / 2 + 1) b)) := by
  rw [prt_split o (m := (a + b) / 2) (by omega) (by omega) hi, topE_app]
  have h1 := topE_nn l (prt o a ((a + b) / 2))
  have h2 := topE_nn l (prt o ((a + b) / 2 + 1) b)
  have : topE l (i :: prt o ((a + b) / 2 + 1) b) = max (l.getD i (0, 0)).2 (topE l (prt o ((a + b) / 2 + 1) b)) := rfl
  rw [this]; omega
theorem grow_s (l : List Span) (o : List Nat) (hol : ∀ i ∈ o, i < l.length) (hsm : o.length ≤ 1000000) : ∀ (f a b : Nat) (E : List Int), a ≤ b → b - a < f → b ≤ o.length → E.length = o.length →
    Eff1 Try.prog 49 [.ptr (0, 600) 0, I .i64 (a : Nat), I .i64 (b : Nat)] [((0, 600), gbox l o), ((0, 601), erow E)] [((0, 601), erow (growE l o f a b E))] (I .i64 (topE l (prt o a b)))
  | 0, a, b, E, h, h1, h2, h3 => by omega
  | f + 1, a, b, E, h, h1, h2, h3 => by
    refine eff_of fun H hH => ?_
    have hH0 := hH ((0, 600), gbox l o) (by simp)
    have hH1 := hH ((0, 601), erow E) (by simp)
    refine spec_of Try.func49 (by kernel_rfl) rfl (by simp) ?_
    dsimp only [Try.f49]
    by_cases hab : a = b
    · subst hab
      repeat' (first | (refine k_op1 ?_; (first | refine o_sv rfl (by decide) ?_ | (refine k_bin ?_; (refine o_val (v_add (wi64 (by omega) (by omega))) rfl rfl (by decide) ?_)))) | (refine k_ops ?_; (first | refine o_go (by first | exact .inl rfl | exact .inr ⟨_, _, _, rfl, rfl, rfl⟩) ?_ | refine o_nil ?_)) | (refine k_run ?_; (first | refine r_seq ?_ | refine r_region ?_ | refine r_skip ?_ | refine r_if rfl (fun _ => ?_) (fun _ => ?_))))
      all_goals try (exfalso; omega)
      refine r_ret Try.func49 _ (res_one rfl rfl) ⟨?_, ?_⟩
      · rw [prt_nil o (Nat.le_refl _)]; rfl
      · rw [growE, if_pos rfl]; exact (upd_id (m := (0, 601)) hH1).symm
    refine r_take 600 0 600 hH0 rfl rfl ?_
    refine r_taker 601 0 601 (upd_ne hH1 (by simp)) rfl rfl ?_
    refine r_alias 100601 rfl ?_
    obtain ⟨m, hm⟩ : ∃ m, (a + b) / 2 = m := ⟨_, rfl⟩
    have hmr : a ≤ m ∧ m < b := by omega
    obtain ⟨i, hi⟩ : ∃ i, o[m]? = some i := ⟨_, List.getElem?_eq_getElem (by omega)⟩
    have hil := hol i (List.mem_of_getElem? hi)
    obtain ⟨s, hs⟩ : ∃ s, l[i]? = some s := ⟨_, List.getElem?_eq_getElem hil⟩
    have hgs : (l.getD i (0, 0)) = s := getD_some hs
    have hmid := topE_mid l o (by omega : a < b) (by rw [hm]; exact hi)
    rw [hm, hgs] at hmid
    have c1 := grow_s l o hol hsm f a m E (by omega) (by omega) (by omega) h3
    have hl1 : (growE l o f a m E).length = o.length := by rw [growE_len]; exact h3
    have c2 := grow_s l o hol hsm f (m + 1) b (growE l o f a m E) (by omega) (by omega) (by omega) hl1
    obtain ⟨E2, hE2⟩ : ∃ E2, growE l o f (m + 1) b (growE l o f a m E) = E2 := ⟨_, rfl⟩
    have hl2 : E2.length = o.length := by rw [← hE2, growE_len]; exact hl1
    rw [hE2] at c2
    have hfin : growE l o (f + 1) a b E = E2.set m (topE l (prt o a b)) := by rw [growE, if_neg hab, hm, hE2]
    have hmi : ((a : Int) + b) / 2 = (m : Nat) := by omega
    obtain ⟨z, hz⟩ : ∃ z, E2[m]? = some z := ⟨_, List.getElem?_eq_getElem (by omega)⟩
    have hz' : (E2.set m (topE l (prt o a b)))[m]? = some (topE l (prt o a b)) := by rw [List.getElem?_set_self (by omega)]
    have hN := topE_nn l (prt o a b)
    obtain ⟨T, hT⟩ : ∃ T, topE l (prt o a b) = T := ⟨_, rfl⟩
    rw [hT] at hmid hz' hN hfin ⊢
    rw [hmid] at hz' hfin ⊢
    repeat' (first | (refine k_op1 ?_; (first | refine o_sv rfl (by decide) ?_ | (refine k_load ?_; (first | refine o_val (v_rloadm hz' rfl rfl rfl) rfl rfl (by decide) ?_ | refine o_val (v_load rfl rfl rfl rfl) rfl rfl (by decide) ?_)) | (refine k_field ?_; (refine o_val (v_field rfl rfl) rfl rfl (by decide) ?_)) | (refine k_index ?_; (refine o_val (v_rindex rfl (by omega) (by rw [List.length_map]; first | omega | (rw [List.length_set]; omega)) rfl) rfl rfl (by decide) ?_)) | (refine k_bin ?_; (first | refine o_val (v_quoe (by omega) (by omega) (wi64 (by omega) (by omega)) hmi) rfl rfl (by decide) ?_ | refine o_val (v_add (wi64 (by omega) (by omega))) rfl rfl (by decide) ?_)))) | (refine k_ops ?_; (first | refine o_go (by first | exact .inl rfl | exact .inr ⟨_, _, _, rfl, rfl, rfl⟩) ?_ | refine o_nil ?_)) | (refine k_run ?_; (first | refine r_seq ?_ | refine r_region ?_ | refine r_skip ?_ | refine r_tr ?_ | refine r_if rfl (fun _ => ?_) (fun _ => ?_))) | (refine k_tr ?_; (first | (refine kt_end ?_; refine t_end mix (by kernel_rfl) ?_) | refine t_sv rfl (by first | exact rfl | exact ⟨_, rfl, rfl, rfl⟩) (by decide) ?_ | (refine kt_load ?_; (first | refine t_val (v_load rfl rfl rfl rfl) (by first | exact rfl | exact ⟨_, rfl, rfl, rfl⟩) rfl rfl (by decide) ?_ | refine t_val (v_loade rfl rfl rfl) (by first | exact rfl | exact ⟨_, rfl, rfl, rfl⟩) rfl rfl (by decide) ?_)) | (refine kt_field ?_; (first | refine t_val (v_field rfl rfl) (by first | exact rfl | exact ⟨_, rfl, rfl, rfl⟩) rfl rfl (by decide) ?_ | refine t_val (v_fielde rfl rfl) (by first | exact rfl | exact ⟨_, rfl, rfl, rfl⟩) rfl rfl (by decide) ?_)) | (refine kt_index ?_; (first | refine t_val (v_rindex rfl (by omega) (by rw [List.length_map]; first | omega | (rw [List.length_set]; omega)) rfl) (by first | exact rfl | exact ⟨_, rfl, rfl, rfl⟩) rfl rfl (by decide) ?_ | refine t_val (v_index (ys := o.map fun i : Nat => [Dint (i : Nat)]) rfl (by omega) (idx hi) rfl) (by first | exact rfl | exact ⟨_, rfl, rfl, rfl⟩) rfl rfl (by decide) ?_ | refine t_val (v_index (ys := l.map spc) rfl (by omega) (idx hs) rfl) (by first | exact rfl | exact ⟨_, rfl, rfl, rfl⟩) rfl rfl (by decide) ?_)) | (refine kt_bin ?_; (refine t_val (v_add (wi64 (by omega) (by omega))) (by first | exact rfl | exact ⟨_, rfl, rfl, rfl⟩) rfl rfl (by decide) ?_)) | (refine kt_blt ?_; (refine t_val v_max3 (by first | exact rfl | exact ⟨_, rfl, rfl, rfl⟩) rfl rfl (by decide) ?_)) | (refine kt_call ?_; (first | refine t_effr (eff_swap c1) (by first | exact rfl | exact ⟨_, rfl, rfl, rfl⟩) rfl rfl rfl (by decide) ?_ | refine t_effr (eff_swap c2) (by first | exact rfl | exact ⟨_, rfl, rfl, rfl⟩) rfl rfl rfl (by decide) ?_)) | (refine kt_store ?_; (refine t_rstorem (max (max s.2 (topE l (prt o a m))) (topE l (prt o (m + 1) b))) (by first | exact rfl | exact ⟨_, rfl, rfl, rfl⟩) rfl rfl rfl rfl hz rfl rfl rfl rfl ?_)))))
    all_goals try (exfalso; omega)
    refine r_giver 601 0 601 rfl rfl rfl ?_
    refine r_alias' 100601 rfl ?_
    refine r_give 600 0 600 (raw := gbox l o) rfl rfl rfl rfl rfl ?_
    refine r_ret Try.func49 _ (res_one rfl rfl) ⟨rfl, ?_⟩
    rw [hfin]
    refine (upd_two (a := (0, 600)) (b := (0, 601)) (by simp)).trans ?_
    rw [upd_id (m := (0, 600)) hH0]; rfl
end Go.Proofs.Ytiapeheclfkdmaa
namespace Go.Proofs.Ytiapeheclfkdmaa
open Go.Ab Go.Stab Go.Srt
set_option maxHeartbeats 20000000
set_option linter.unusedVariables false
set_option linter.unusedSimpArgs false
attribute [local irreducible] Run Ops Op1 Does Val Tr PureF Eff1 NF Rel EffV EffM

theorem insR_map {α β : Type} {le : α → α → Bool} {le' : β → β → Bool} (f : α → β) (h : ∀ x y, le x y = le' (f x) (f y)) (y : α) : ∀ S : List α, (insR le y S).map f = insR le' (f y) (S.map f)
  | [] => rfl
  | s :: S => by
    rw [insR, List.map_cons, insR, ← h]
    split
    · rw [List.map_cons, insR_map f h y S]
    · rfl
theorem isort_map {α β : Type} {le : α → α → Bool} {le' : β → β → Bool} (f : α → β) (h : ∀ x y, le x y = le' (f x) (f y)) : ∀ q : List α, (isort le q).map f = isort le' (q.map f) := by
  intro q
  induction q using snoc_ind with
  | h0 => rfl
  | hs L x ih => rw [isort_snoc, insR_map f h, ih, List.map_append, List.map_cons, List.map_nil, isort_snoc]

def sleS (l : List Span) (a b : Nat) : Bool := decide ((l.getD a (0, 0)).1 ≤ (l.getD b (0, 0)).1)
theorem sleS_ord (l : List Span) : Srt.Ord (sleS l) := ⟨fun a b c h1 h2 => by simp only [sleS, decide_eq_true_eq] at *; omega, fun a b => by simp only [sleS, decide_eq_true_eq]; omega⟩
/-- the numbers of the spans by their beginnings -/
def ordS (l : List Span) : List Nat := isort (sleS l) (List.range l.length)
theorem ordS_perm (l : List Span) : (ordS l).Perm (List.range l.length) := isort_perm _
theorem ordS_asc (l : List Span) : (ordS l).Pairwise (byB l) := (isort_asc (sleS_ord l) _).imp (fun h => of_decide_eq_true h)
def ile {l : List Span} (a b : Ix l) : Bool := sleS l a.1 b.1
theorem ile_ord (l : List Span) : Srt.Ord (ile (l := l)) := ⟨fun a b c h1 h2 => (sleS_ord l).trans _ _ _ h1 h2, fun a b => (sleS_ord l).total _ _⟩
theorem icmp_le {l : List Span} (x y : Ix l) : ile x y = !decide (icmp y x < 0) := by
  have key : icmp y x < 0 ↔ ¬ ((l.getD x.1 (0, 0)).1 ≤ (l.getD y.1 (0, 0)).1) := by
    unfold icmp cmpI
    split
    · constructor <;> intro <;> omega
    · split <;> constructor <;> intro <;> omega
  show decide _ = _
  by_cases h : (l.getD x.1 (0, 0)).1 ≤ (l.getD y.1 (0, 0)).1
  · rw [decide_eq_true h, decide_eq_false (fun hh => key.1 hh h)]; rfl
  · rw [decide_eq_false h, decide_eq_true (key.2 h)]; rfl
theorem lift_ix (l : List Span) : ∀ q : List Nat, (∀ i ∈ q, i < l.length) → ∃ r : List (Ix l), r.map Subtype.val = q
  | [], _ => ⟨[], rfl⟩
  | x :: q, h => by
    obtain ⟨r, rfl⟩ := lift_ix l q fun y hy => h y (by simp [hy])
    exact ⟨⟨x, h x (by simp)⟩ :: r, rfl⟩
/-- the program's check -/
def chkB : List Span → Int
  | [] => 0
  | s :: r => if okS s = false ∨ 2147483647 < s.2 then 8 else chkB r
def bldE (l : List Span) : Int := if 4096 < l.length then 2 else chkB l
theorem chkB_eq : ∀ l : List Span, chkB l = if chkS l ≠ 0 then chkS l else chkE l
  | [] => rfl
  | s :: r => by
    rw [chkB, chkS, chkE, chkB_eq r]
    cases h : okS s with
    | false => simp
    | true =>
      simp only [Bool.true_eq_false, false_or, if_false]
      by_cases h2 : 2147483647 < s.2
      · rw [if_pos h2, if_pos h2]
        split
        · have : ∀ r : List Span, chkS r = 0 ∨ chkS r = 8 := by
            intro r
            induction r with
            | nil => exact .inl rfl
            | cons s r ih => rw [chkS]; split; exact .inr rfl; exact ih
          rcases this r with h | h <;> omega
        · rfl
      · rw [if_neg h2, if_neg h2]
theorem bldE_eq (l : List Span) : bldE l = chk12 l := by
  rw [bldE, chk12, chk11]
  by_cases h : 4096 < l.length
  · rw [if_pos h, if_pos h, if_pos (by omega)]
  · rw [if_neg h, if_neg h, chkB_eq]
/-- an index -/
abbrev ibox (l : List Span) (o : List Nat) (E : List Int) : Blk := .box [.d (spans l), .d (nats o), .d (ints E)]
def endsS (l : List Span) : List Int := growE l (ordS l) (l.length + 1) 0 l.length (List.replicate l.length 0)
theorem rel_self (s : Span) : relN s s = if okS s = false then 0 else 7 := by
  rw [relN]
  cases okS s with
  | false => simp
  | true => rw [if_neg (by simp), if_neg (by rw [swp]; omega), relU, if_pos rfl]; simp
theorem build_bad (l : List Span) (hl : l.length ≤ 9223372036854775807) (h : bldE l ≠ 0) : PureF Try.prog 25 [.d (spans l)] (.tup [.d (.lit (.pointer none)), I .i64 (bldE l)]) := by
  refine pure_of fun H => ?_
  refine spec_of Try.func25 (by kernel_rfl) rfl (by simp) ?_
  dsimp only [Try.f25]
  by_cases hb : 4096 < l.length
  · repeat' (first | (refine k_op1 ?_; (first | refine o_sv rfl (by decide) ?_ | (refine k_load ?_; (refine o_val (v_load rfl rfl rfl rfl) rfl rfl (by decide) ?_)) | (refine k_blt ?_; (refine o_val (v_lenm rfl) rfl rfl (by decide) ?_)) | (refine k_box ?_; (refine o_does (d_box rfl rfl rfl rfl rfl (by decide)) ?_)))) | (refine k_ops ?_; (first | refine o_go (by first | exact .inl rfl | exact .inr ⟨_, _, _, rfl, rfl, rfl⟩) ?_ | refine o_nil ?_)) | (refine k_run ?_; (first | refine r_seq ?_ | refine r_region ?_ | refine r_skip ?_ | refine r_block ?_ | refine r_if rfl (fun _ => ?_) (fun _ => ?_))))
    all_goals try (exfalso; omega)
    refine r_ret Try.func25 _ (res_two rfl rfl rfl) ⟨?_, rfl⟩
    rw [bldE, if_pos hb]
  repeat' (first | (refine k_op1 ?_; (first | refine o_sv rfl (by decide) ?_ | (refine k_load ?_; (refine o_val (v_load rfl rfl rfl rfl) rfl rfl (by decide) ?_)) | (refine k_blt ?_; (refine o_val (v_lenm rfl) rfl rfl (by decide) ?_)) | (refine k_box ?_; (refine o_does (d_box rfl rfl rfl rfl rfl (by decide)) ?_)))) | (refine k_ops ?_; (first | refine o_go (by first | exact .inl rfl | exact .inr ⟨_, _, _, rfl, rfl, rfl⟩) ?_ | refine o_nil ?_)) | (refine k_run ?_; (first | refine r_seq ?_ | refine r_region ?_ | refine r_skip ?_ | refine r_block ?_ | refine r_if rfl (fun _ => ?_) (fun _ => ?_))))
  all_goals try (exfalso; omega)
  refine r_loop ?_
  refine r_less (r_inv (fun k : Nat => ⟨61, [(1, .ptr (0, 1) 0), (11, .d (spans l)), (12, I .i64 l.length), (13, I .i64 (k : Nat))], [(1, .box [.d (spans l)])], H⟩) (fun k => k ≤ l.length ∧ chkB (l.drop k) = chkB l) (fun k => l.length - k) ?_ 0 ⟨Nat.zero_le _, rfl⟩) rfl rfl
  intro k ⟨h1, h2⟩ ih
  have hB : bldE l = chkB l := by rw [bldE, if_neg hb]
  by_cases hlt : k < l.length
  · obtain ⟨s, hs⟩ : ∃ s, l[k]? = some s := ⟨_, List.getElem?_eq_getElem hlt⟩
    have hv := rel_s s s
    rw [rel_self] at hv
    rw [drop_cons hs, chkB] at h2
    cases ho : okS s with
    | false =>
      rw [ho] at h2 hv
      rw [if_pos rfl] at hv
      repeat' (first | (refine k_op1 ?_; (first | refine o_sv rfl (by decide) ?_ | (refine k_load ?_; (first | refine o_val (v_loadea rfl rfl) rfl rfl (by decide) ?_ | refine o_val (v_loadp rfl rfl rfl rfl) rfl rfl (by decide) ?_)) | (refine k_index ?_; (refine o_val (v_index rfl (by omega) (idx hs) rfl) rfl rfl (by decide) ?_)) | (refine k_call ?_; (refine o_fn hv rfl (by decide) ?_)) | (refine k_store ?_; (refine o_store0 rfl rfl rfl rfl rfl rfl ?_)) | (refine k_alloc ?_; (refine o_does (d_alloc rfl rfl (by decide)) ?_)))) | (refine k_ops ?_; (first | refine o_go (by first | exact .inl rfl | exact .inr ⟨_, _, _, rfl, rfl, rfl⟩) ?_ | refine o_nil ?_ | refine o_no rfl rfl (by decide) ?_)) | (refine k_run ?_; (first | refine r_seq ?_ | refine r_region ?_ | refine r_true rfl ?_ | refine r_skip ?_ | refine r_block ?_ | refine r_tr ?_ | refine r_if rfl (fun _ => ?_) (fun _ => ?_) | refine r_exit rfl ?_)) | (refine k_tr ?_; ((refine kt_load ?_; (refine t_val (v_load rfl rfl rfl rfl) (by first | exact rfl | exact ⟨_, rfl, rfl, rfl⟩) rfl rfl (by decide) ?_)))))
      all_goals try (exfalso; omega)
      refine r_ret Try.func25 _ (res_two rfl rfl rfl) ⟨?_, rfl⟩
      rw [hB, ← h2]; rfl
    | true =>
      rw [ho] at h2 hv
      rw [if_neg (by simp)] at hv
      repeat' (first | (refine k_op1 ?_; (first | refine o_sv rfl (by decide) ?_ | (refine k_load ?_; (first | refine o_val (v_load rfl rfl rfl rfl) rfl rfl (by decide) ?_ | refine o_val (v_loadea rfl rfl) rfl rfl (by decide) ?_ | refine o_val (v_loadp rfl rfl rfl rfl) rfl rfl (by decide) ?_)) | (refine k_field ?_; (refine o_val (v_field rfl rfl) rfl rfl (by decide) ?_)) | (refine k_index ?_; (refine o_val (v_index rfl (by omega) (idx hs) rfl) rfl rfl (by decide) ?_)) | (refine k_bin ?_; (refine o_val (v_add (wi64 (by omega) (by omega))) rfl rfl (by decide) ?_)) | (refine k_call ?_; (refine o_fn hv rfl (by decide) ?_)) | (refine k_store ?_; (refine o_store0 rfl rfl rfl rfl rfl rfl ?_)) | (refine k_alloc ?_; (refine o_does (d_alloc rfl rfl (by decide)) ?_)))) | (refine k_ops ?_; (first | refine o_go (by first | exact .inl rfl | exact .inr ⟨_, _, _, rfl, rfl, rfl⟩) ?_ | refine o_nil ?_)) | (refine k_run ?_; (first | refine r_seq ?_ | refine r_region ?_ | refine r_skip ?_ | refine r_block ?_ | refine r_tr ?_ | refine r_inBlock ?_ | refine r_if rfl (fun _ => ?_) (fun _ => ?_) | refine r_exit rfl ?_)) | (refine k_tr ?_; ((refine kt_load ?_; (refine t_val (v_load rfl rfl rfl rfl) (by first | exact rfl | exact ⟨_, rfl, rfl, rfl⟩) rfl rfl (by decide) ?_)))))
      all_goals try (exfalso; omega)
      all_goals first
        | (refine r_ret Try.func25 _ (res_two rfl rfl rfl) ⟨?_, rfl⟩
           rw [hB, ← h2, if_pos (.inr (by omega))]; done)
        | exact r_less (ih (k + 1) ⟨by omega, by rw [if_neg (by simp; omega)] at h2; exact h2⟩ (by omega)) rfl rfl
  · obtain rfl : k = l.length := by omega
    rw [List.drop_length, chkB] at h2
    exact absurd (hB.trans h2.symm) h
theorem build_ok (l : List Span) (h : bldE l = 0) : ∀ H, Ab.Spec Try.prog 25 [.d (spans l)] H (fun r H' => r = .newT (ibox l (ordS l) (endsS l)) [.d (.lit (.int .i64 0))] ∧ H' = H) := by
  intro H
  refine spec_of Try.func25 (by kernel_rfl) rfl (by simp) ?_
  dsimp only [Try.f25]
  have hb : ¬ 4096 < l.length := fun hb => by rw [bldE, if_pos hb] at h; cases h
  rw [bldE, if_neg hb] at h
  repeat' (first | (refine k_op1 ?_; (first | refine o_sv rfl (by decide) ?_ | (refine k_load ?_; (refine o_val (v_load rfl rfl rfl rfl) rfl rfl (by decide) ?_)) | (refine k_blt ?_; (refine o_val (v_lenm rfl) rfl rfl (by decide) ?_)) | (refine k_box ?_; (refine o_does (d_box rfl rfl rfl rfl rfl (by decide)) ?_)))) | (refine k_ops ?_; (first | refine o_go (by first | exact .inl rfl | exact .inr ⟨_, _, _, rfl, rfl, rfl⟩) ?_ | refine o_nil ?_)) | (refine k_run ?_; (first | refine r_seq ?_ | refine r_region ?_ | refine r_skip ?_ | refine r_block ?_ | refine r_if rfl (fun _ => ?_) (fun _ => ?_))))
  all_goals try (exfalso; omega)
  refine r_loop ?_
  refine r_less (r_inv (fun k : Nat => ⟨61, [(1, .ptr (0, 1) 0), (11, .d (spans l)), (12, I .i64 l.length), (13, I .i64 (k : Nat))], [(1, .box [.d (spans l)])], H⟩) (fun k => k ≤ l.length ∧ chkB (l.drop k) = 0) (fun k => l.length - k) ?_ 0 ⟨Nat.zero_le _, h⟩) rfl rfl
  intro k ⟨h1, h2⟩ ih
  by_cases hlt : k < l.length
  · obtain ⟨s, hs⟩ : ∃ s, l[k]? = some s := ⟨_, List.getElem?_eq_getElem hlt⟩
    have hv := rel_s s s
    rw [rel_self] at hv
    rw [drop_cons hs, chkB] at h2
    cases ho : okS s with
    | false => rw [ho, if_pos (.inl rfl)] at h2; cases h2
    | true =>
      rw [ho] at h2 hv
      rw [if_neg (by simp)] at hv
      by_cases hbig : 2147483647 < s.2
      · rw [if_pos (.inr hbig)] at h2; cases h2
      rw [if_neg (by simp; omega)] at h2
      repeat' (first | (refine k_op1 ?_; (first | refine o_sv rfl (by decide) ?_ | (refine k_load ?_; (first | refine o_val (v_load rfl rfl rfl rfl) rfl rfl (by decide) ?_ | refine o_val (v_loadea rfl rfl) rfl rfl (by decide) ?_ | refine o_val (v_loadp rfl rfl rfl rfl) rfl rfl (by decide) ?_)) | (refine k_field ?_; (refine o_val (v_field rfl rfl) rfl rfl (by decide) ?_)) | (refine k_index ?_; (refine o_val (v_index rfl (by omega) (idx hs) rfl) rfl rfl (by decide) ?_)) | (refine k_bin ?_; (refine o_val (v_add (wi64 (by omega) (by omega))) rfl rfl (by decide) ?_)) | (refine k_call ?_; (refine o_fn hv rfl (by decide) ?_)) | (refine k_store ?_; (refine o_store0 rfl rfl rfl rfl rfl rfl ?_)) | (refine k_alloc ?_; (refine o_does (d_alloc rfl rfl (by decide)) ?_)))) | (refine k_ops ?_; (first | refine o_go (by first | exact .inl rfl | exact .inr ⟨_, _, _, rfl, rfl, rfl⟩) ?_ | refine o_nil ?_)) | (refine k_run ?_; (first | refine r_seq ?_ | refine r_region ?_ | refine r_skip ?_ | refine r_block ?_ | refine r_tr ?_ | refine r_inBlock ?_ | refine r_if rfl (fun _ => ?_) (fun _ => ?_) | refine r_exit rfl ?_)) | (refine k_tr ?_; ((refine kt_load ?_; (refine t_val (v_load rfl rfl rfl rfl) (by first | exact rfl | exact ⟨_, rfl, rfl, rfl⟩) rfl rfl (by decide) ?_)))))
      all_goals try (exfalso; omega)
      exact r_less (ih (k + 1) ⟨by omega, h2⟩ (by omega)) rfl rfl
  · have hc := clone_s l (by omega)
    repeat' (first | (refine k_op1 ?_; (first | refine o_sv rfl (by decide) ?_ | (refine k_load ?_; (refine o_val (v_load rfl rfl rfl rfl) rfl rfl (by decide) ?_)) | (refine k_blt ?_; (refine o_val (v_lenm rfl) rfl rfl (by decide) ?_)) | (refine k_box ?_; (refine o_does (d_box rfl rfl rfl rfl rfl (by decide)) ?_)) | (refine k_build ?_; (refine o_buildr rfl rfl rfl rfl rfl rfl (by decide) ?_)))) | (refine k_ops ?_; (first | refine o_go (by first | exact .inl rfl | exact .inr ⟨_, _, _, rfl, rfl, rfl⟩) ?_ | refine o_nil ?_)) | (refine k_run ?_; (first | refine r_seq ?_ | refine r_region ?_ | refine r_skip ?_ | refine r_block ?_ | refine r_tr ?_ | refine r_if rfl (fun _ => ?_) (fun _ => ?_) | refine r_exit rfl ?_)) | (refine k_tr ?_; (first | (refine kt_load ?_; (refine t_val (v_load rfl rfl rfl rfl) (by first | exact rfl | exact ⟨_, rfl, rfl, rfl⟩) rfl rfl (by decide) ?_)) | (refine kt_blt ?_; (refine t_val (v_lenm rfl) (by first | exact rfl | exact ⟨_, rfl, rfl, rfl⟩) rfl rfl (by decide) ?_)) | (refine kt_call ?_; (refine t_fn hc (by first | exact rfl | exact ⟨_, rfl, rfl, rfl⟩) rfl (by decide) ?_)) | (refine kt_make ?_; (refine t_make (xs := (List.replicate l.length (0 : Int)).map fun x => [Dint x]) (by first | exact rfl | exact ⟨_, rfl, rfl, rfl⟩) rfl rfl (by omega) (by omega) rfl rfl rfl (by decide) (by simp) ?_)) | refine t_tail mix (by kernel_rfl) ?_)))
    all_goals try (exfalso; omega)
    refine r_less (tm' := [(1, .ptr (0, 1) 0), (6, .ptr (0, 33) 0), (34, .d (spans l)), (35, I .i64 l.length), (36, I .i64 0)]) (hp' := [(1, .box [.d (spans l)]), (33, .box [.d (spans l), .d (.lit nilS), .ref (0, 31)]), (31, erow (List.replicate l.length 0))]) ?_ rfl rfl
    refine r_ren 33 600 rfl rfl ?_
    refine r_ren 31 601 rfl rfl ?_
    refine r_cell_row 600 1 1000 3 1 rfl rfl rfl rfl ?_
    refine r_loop ?_
    refine r_less (r_inv (fun k : Nat => ⟨61, [(1, .ptr (0, 1) 0), (6, .ptr (0, 600) 0), (34, .d (spans l)), (35, I .i64 l.length), (36, I .i64 (k : Nat))], [(1, .box [.d (spans l)]), (600, .box [.d (spans l), .ref (0, 1000), .ref (0, 601)]), (1000, .row 3 1 ((List.range k).map fun i : Nat => [Dint (i : Nat)])), (601, erow (List.replicate l.length 0))], H⟩) (fun k => k ≤ l.length) (fun k => l.length - k) ?_ 0 (Nat.zero_le _)) rfl rfl
    intro i hi ih2
    by_cases hlt2 : i < l.length
    · repeat' (first | (refine k_op1 ?_; (first | refine o_sv rfl (by decide) ?_ | (refine k_load ?_; (refine o_val (v_load rfl rfl rfl rfl) rfl rfl (by decide) ?_)) | (refine k_field ?_; (refine o_val (v_field rfl rfl) rfl rfl (by decide) ?_)) | (refine k_bin ?_; (refine o_val (v_add (wi64 (by omega) (by omega))) rfl rfl (by decide) ?_)) | (refine k_blt ?_; (refine o_app1 (g := fun i : Nat => [Dint (i : Nat)]) rfl rfl i rfl rfl rfl rfl rfl rfl rfl (by decide) (by simp; omega) ?_)) | (refine k_store ?_; (refine o_store0 rfl rfl rfl rfl rfl rfl ?_)) | (refine k_lit ?_; (refine o_lit rfl rfl rfl rfl rfl rfl rfl rfl (by decide) ?_)))) | (refine k_ops ?_; (first | refine o_go (by first | exact .inl rfl | exact .inr ⟨_, _, _, rfl, rfl, rfl⟩) ?_ | refine o_nil ?_)) | (refine k_run ?_; (first | refine r_seq ?_ | refine r_region ?_ | refine r_skip ?_ | refine r_block ?_ | refine r_inBlock ?_ | refine r_if rfl (fun _ => ?_) (fun _ => ?_) | refine r_exit rfl ?_)))
      all_goals try (exfalso; omega)
      refine r_ren 46 1000 rfl rfl ?_
      refine r_less (ih2 (i + 1) (by omega) (by omega)) rfl ?_
      rw [List.range_succ]; rfl
    · obtain rfl : i = l.length := by omega
      obtain ⟨q, hq⟩ := lift_ix l (List.range l.length) fun i hi => by simpa using hi
      have hql : q.length = l.length := by have := congrArg List.length hq; simpa using this
      have hC := srt_st (ixD (l := l)) (fun _ => rfl) (fun _ => rfl) 47 0 1 (.box [.d (spans l)]) (by omega) ile icmp icmp_le (fun j x y => cmpX_s l 1 j x y) (ile_ord l) q (by omega)
      have hord : (isort ile q).map Subtype.val = ordS l := by rw [isort_map (le := ile) (le' := sleS l) Subtype.val (fun x y => rfl), hq]; rfl
      rw [show (List.range l.length).map (fun i : Nat => [Dint (i : Nat)]) = q.map (fun x => [ixD x]) by rw [← hq, List.map_map]; rfl]
      rw [show (isort ile q).map (fun x => [ixD x]) = (ordS l).map (fun i : Nat => [Dint (i : Nat)]) by rw [← hord, List.map_map]; rfl] at hC
      have hol : ∀ i ∈ ordS l, i < l.length := fun i hi => by simpa using (ordS_perm l).mem_iff.1 hi
      have hoL : (ordS l).length = l.length := by simpa using (ordS_perm l).length_eq
      have hG := grow_s l (ordS l) hol (by omega) (l.length + 1) 0 l.length (List.replicate l.length 0) (by omega) (by omega) (by omega) (by simp [hoL])
      repeat' (first | (refine k_op1 ?_; (first | refine o_sv rfl (by decide) ?_ | (refine k_load ?_; (refine o_val (v_load rfl rfl rfl rfl) rfl rfl (by decide) ?_)) | (refine k_field ?_; (refine o_val (v_field rfl rfl) rfl rfl (by decide) ?_)) | (refine k_blt ?_; (refine o_val (v_lenm rfl) rfl rfl (by decide) ?_)) | (refine k_call ?_; (first | (refine o_effr hC rfl rfl rfl (by decide) ?_; refine o_freeze 1000 rfl ?_) | (refine o_effr (eff_swap hG) rfl rfl rfl (by decide) ?_; refine o_freeze 601 rfl ?_))) | (refine k_lit ?_; (refine o_lit rfl rfl rfl rfl rfl rfl rfl rfl (by decide) ?_)) | refine o_mkfn rfl rfl (by decide) ?_)) | (refine k_ops ?_; (first | refine o_go (by first | exact .inl rfl | exact .inr ⟨_, _, _, rfl, rfl, rfl⟩) ?_ | refine o_nil ?_)) | (refine k_run ?_; (first | refine r_seq ?_ | refine r_region ?_ | refine r_skip ?_ | refine r_block ?_ | refine r_if rfl (fun _ => ?_) (fun _ => ?_) | refine r_exit rfl ?_)))
      all_goals try (exfalso; omega)
      exact r_ret Try.func25 _ (res_newT (qs := [.d (spans l), .d (nats (ordS l)), .d (ints (endsS l))]) rfl rfl rfl rfl rfl) ⟨rfl, rfl⟩
end Go.Proofs.Ytiapeheclfkdmaa
