/- A law holds for every input; no condition. -/
import Derived.Test.YtfpdfcjohminlaaWf
set_option linter.all false
set_option linter.unusedVariables false
set_option linter.unusedSimpArgs false
namespace Go.Proofs.Ytfpdfcjohminlaa
open Go.Ab
set_option maxHeartbeats 20000000
set_option linter.unusedSimpArgs false
set_option linter.unusedVariables false
attribute [local irreducible] Run Ops Op1 Does Val Tr PureF Eff1 NF Rel tnum tnext

theorem routeOf_len (c : Corpus) (a b : Int) : ((routeOf c a b).getD []).length ≤ c.tokens.length + 1 := by
  unfold routeOf
  split
  · cases hr : routeGo c b (a :: up c a) with
    | none => exact Nat.zero_le _
    | some r => have := routeGo_len c b _ _ hr; have := way_len c a; simp only [Option.getD_some]; simp only [way] at this; omega
  · exact Nat.zero_le _
theorem childrenOf_len (c : Corpus) (n : Int) : (childrenOf c n).length ≤ c.nodes.length := by
  unfold childrenOf
  split
  · exact sel_len _ _
  · simp
theorem ways_law (l : List Int) (i j : Int) (hl : l.length ≤ 9223372036854775807) : PureF Try.prog 6 [.d (ints l), I .i64 i, I .i64 j] (B true) := by
  refine pure_of fun H => ?_
  refine spec_of Try.func6 (by kernel_rfl) rfl (by simp) ?_
  dsimp only [Try.f6]
  have hl2 : (l.take 120).length ≤ 120 := by simp; omega
  repeat' (first | (refine k_op1 ?_; (first | refine o_sv rfl (by decide) ?_ | (refine k_load ?_; (refine o_val (v_loadp rfl rfl rfl rfl) rfl rfl (by decide) ?_)) | (refine k_call ?_; (first | (refine o_rel1 (corpus_r _ 0 hl2 (by decide)) rfl rfl (by decide) ?_; rintro ⟨c, k1⟩ ⟨⟨s, hs, hc⟩, -⟩; simp only at hc ⊢; have hw := hc.wf (by omega); have ht := hw.tok; have ht0 := hw.tok0; have hnn := hc.nnodes; have hmi := modv_range (x := i) (n := (c.tokens.length : Int) + 2) (by omega); have hmj := modv_range (x := j) (n := (c.tokens.length : Int) + 2) (by omega); have hr := routeOf_len c (modv i (c.tokens.length + 2) - 1) (modv j (c.tokens.length + 2) - 1)) | refine o_fn (route_s hw _ _) rfl (by decide) ?_ | refine o_fn (rroute_s hw _ _) rfl (by decide) ?_)) | (refine k_store ?_; (refine o_store0 rfl rfl rfl rfl rfl rfl ?_)) | (refine k_alloc ?_; (refine o_does (d_alloc rfl rfl (by decide)) ?_)) | (refine o_new (d := 13) rfl hl (by decide) rfl ?_; refine o_ren 13 500 rfl rfl ?_))) | (refine k_ops ?_; (first | refine o_go (by first | exact .inl rfl | exact .inr ⟨_, _, _, rfl, rfl, rfl⟩) ?_ | refine o_nil ?_)) | (refine k_run ?_; (first | refine r_seq ?_ | refine r_region ?_ | refine r_tr ?_)) | (refine k_tr ?_; (first | (refine kt_end ?_; refine t_end mix (by kernel_rfl) ?_) | refine t_sv rfl (by first | exact rfl | exact ⟨_, rfl, rfl, rfl⟩) (by decide) ?_ | (refine kt_load ?_; (first | refine t_val (v_load rfl rfl rfl rfl) (by first | exact rfl | exact ⟨_, rfl, rfl, rfl⟩) rfl rfl (by decide) ?_ | refine t_val (v_loadp rfl rfl rfl rfl) (by first | exact rfl | exact ⟨_, rfl, rfl, rfl⟩) rfl rfl (by decide) ?_)) | (refine kt_field ?_; (refine t_val (v_field rfl rfl) (by first | exact rfl | exact ⟨_, rfl, rfl, rfl⟩) rfl rfl (by decide) ?_)) | (refine kt_bin ?_; (first | refine t_val (v_add (wi64 (by omega) (by omega))) (by first | exact rfl | exact ⟨_, rfl, rfl, rfl⟩) rfl rfl (by decide) ?_ | refine t_val (v_sub (wi64 (by omega) (by omega))) (by first | exact rfl | exact ⟨_, rfl, rfl, rfl⟩) rfl rfl (by decide) ?_ | refine t_val (v_beql rfl) (by first | exact rfl | exact ⟨_, rfl, rfl, rfl⟩) rfl rfl (by decide) ?_)) | (refine kt_blt ?_; (refine t_val (v_lenm rfl) (by first | exact rfl | exact ⟨_, rfl, rfl, rfl⟩) rfl rfl (by decide) ?_)) | (refine kt_call ?_; (first | refine t_fn (mod_s _ _ (by omega)) (by first | exact rfl | exact ⟨_, rfl, rfl, rfl⟩) rfl (by decide) ?_ | refine t_fn (texts_same _ (by omega)) (by first | exact rfl | exact ⟨_, rfl, rfl, rfl⟩) rfl (by decide) ?_ | refine t_fn (meet_s hw _ _) (by first | exact rfl | exact ⟨_, rfl, rfl, rfl⟩) rfl (by decide) ?_ | refine t_fn (rmeet_s hw _ _) (by first | exact rfl | exact ⟨_, rfl, rfl, rfl⟩) rfl (by decide) ?_ | refine t_fn known_s (by first | exact rfl | exact ⟨_, rfl, rfl, rfl⟩) rfl (by decide) ?_)) | (refine t_either rfl rfl (fun hg => ?_) (fun hg => ?_) <;> simp only [hg] <;> (try simp only [decide_eq_true_eq, decide_eq_false_iff_not, Bool.not_eq_true', Bool.not_eq_false'] at hg)))))
  all_goals first
    | exact r_ret Try.func6 _ (res_one rfl rfl) ⟨rfl, rfl⟩
    | (exfalso; simp_all; done)
theorem nodes_law (l : List Int) (i j : Int) (hl : l.length ≤ 9223372036854775807) : PureF Try.prog 10 [.d (ints l), I .i64 i, I .i64 j] (B true) := by
  refine pure_of fun H => ?_
  refine spec_of Try.func10 (by kernel_rfl) rfl (by simp) ?_
  dsimp only [Try.f10]
  have hl2 : (l.take 120).length ≤ 120 := by simp; omega
  repeat' (first | (refine k_op1 ?_; (first | refine o_sv rfl (by decide) ?_ | (refine k_load ?_; (refine o_val (v_load rfl rfl rfl rfl) rfl rfl (by decide) ?_)) | (refine k_field ?_; (refine o_val (v_field rfl rfl) rfl rfl (by decide) ?_)) | (refine k_bin ?_; (first | refine o_val (v_add (wi64 (by omega) (by omega))) rfl rfl (by decide) ?_ | refine o_val (v_sub (wi64 (by omega) (by omega))) rfl rfl (by decide) ?_)) | (refine k_blt ?_; (refine o_val (v_lenm rfl) rfl rfl (by decide) ?_)) | (refine k_call ?_; (first | (refine o_rel1 (corpus_r _ 0 hl2 (by decide)) rfl rfl (by decide) ?_; rintro ⟨c, k1⟩ ⟨⟨s, hs, hc⟩, -⟩; simp only at hc ⊢; have hw := hc.wf (by omega); have ht := hw.tok; have ht0 := hw.tok0; have hnn := hc.nnodes; have hmi := modv_range (x := i) (n := (c.tokens.length : Int) + 3) (by omega); have hmj := modv_range (x := j) (n := (c.tokens.length : Int) + 3) (by omega); have hm3 := modv_range (x := modv i (c.tokens.length + 3) - 1 + (modv j (c.tokens.length + 3) - 1)) (n := (c.nodes.length : Int) + 3) (by omega); have hn1 := nodesOf_len c; have hc1 := childrenOf_len c) | refine o_fn (mod_s _ _ (by omega)) rfl (by decide) ?_)) | (refine k_store ?_; (refine o_store0 rfl rfl rfl rfl rfl rfl ?_)) | (refine k_alloc ?_; (refine o_does (d_alloc rfl rfl (by decide)) ?_)) | (refine k_build ?_; (refine o_build rfl rfl rfl rfl rfl rfl rfl (by decide) ?_)) | (refine o_new (d := 12) rfl hl (by decide) rfl ?_; refine o_ren 12 500 rfl rfl ?_))) | (refine k_ops ?_; (first | refine o_go (by first | exact .inl rfl | exact .inr ⟨_, _, _, rfl, rfl, rfl⟩) ?_ | refine o_nil ?_)) | (refine k_run ?_; (first | refine r_seq ?_ | refine r_region ?_ | refine r_tr ?_)) | (refine k_tr ?_; (first | (refine kt_end ?_; refine t_end mix (by kernel_rfl) ?_) | refine t_sv rfl (by first | exact rfl | exact ⟨_, rfl, rfl, rfl⟩) (by decide) ?_ | (refine kt_load ?_; (refine t_val (v_loadp rfl rfl rfl rfl) (by first | exact rfl | exact ⟨_, rfl, rfl, rfl⟩) rfl rfl (by decide) ?_)) | (refine kt_call ?_; (first | refine t_fn (nodes_s28 c _ _ (by omega) (by omega)) (by first | exact rfl | exact ⟨_, rfl, rfl, rfl⟩) rfl (by decide) ?_ | refine t_fn (nodes_s30 c _ _ (by omega) (by omega)) (by first | exact rfl | exact ⟨_, rfl, rfl, rfl⟩) rfl (by decide) ?_ | refine t_fn (common_s29 c _ _ (by omega) (by omega)) (by first | exact rfl | exact ⟨_, rfl, rfl, rfl⟩) rfl (by decide) ?_ | refine t_fn (common_s31 c _ _ (by omega) (by omega)) (by first | exact rfl | exact ⟨_, rfl, rfl, rfl⟩) rfl (by decide) ?_ | refine t_fn (children_s22 c _ (by omega)) (by first | exact rfl | exact ⟨_, rfl, rfl, rfl⟩) rfl (by decide) ?_ | refine t_fn (children_s32 c _ (by omega)) (by first | exact rfl | exact ⟨_, rfl, rfl, rfl⟩) rfl (by decide) ?_ | refine t_fn (ints_same _ (Nat.le_trans (hn1 _ _) (by omega))) (by first | exact rfl | exact ⟨_, rfl, rfl, rfl⟩) rfl (by decide) ?_ | refine t_fn (ints_same _ (Nat.le_trans (hc1 _) (by omega))) (by first | exact rfl | exact ⟨_, rfl, rfl, rfl⟩) rfl (by decide) ?_ | refine t_fn known_s (by first | exact rfl | exact ⟨_, rfl, rfl, rfl⟩) rfl (by decide) ?_)) | (refine t_either rfl rfl (fun hg => ?_) (fun hg => ?_) <;> simp only [hg] <;> (try simp only [decide_eq_true_eq, decide_eq_false_iff_not, Bool.not_eq_true', Bool.not_eq_false'] at hg)))))
  all_goals first
    | exact r_ret Try.func10 _ (res_one rfl rfl) ⟨rfl, rfl⟩
    | (exfalso; simp_all; done)
end Go.Proofs.Ytfpdfcjohminlaa
namespace Go.Proofs.Ytfpdfcjohminlaa
open Go.Ab
set_option maxHeartbeats 2000000
set_option linter.unusedVariables false
set_option linter.unusedSimpArgs false

/-! selections -/
theorem sel_mem {n : Nat} {p : Nat → Bool} {x : Int} (h : x ∈ sel n p) : 0 ≤ x ∧ x < n ∧ p x.toNat = true := by
  simp only [sel, List.mem_map, List.mem_filter, List.mem_range] at h
  obtain ⟨k, ⟨h1, h2⟩, rfl⟩ := h
  exact ⟨by omega, by omega, by simpa using h2⟩
theorem mem_sel {n : Nat} {p : Nat → Bool} {k : Nat} (h : k < n) (hp : p k = true) : (k : Int) ∈ sel n p := by
  simp only [sel, List.mem_map, List.mem_filter, List.mem_range]
  exact ⟨k, ⟨h, hp⟩, rfl⟩
theorem sel_count (n : Nat) (p : Nat → Bool) : (sel n p).length = (List.range n).countP p := by
  simp [sel, List.countP_eq_length_filter]
theorem countP_add {α : Type} (p q r : α → Bool) : ∀ l : List α, (∀ x ∈ l, (r x).toNat = (p x).toNat + (q x).toNat) → l.countP r = l.countP p + l.countP q
  | [], _ => rfl
  | x :: l, h => by
    have h1 := h x (by simp)
    have h2 := countP_add p q r l fun y hy => h y (by simp [hy])
    simp only [List.countP_cons, h2]
    cases hp : p x <;> cases hq : q x <;> cases hr : r x <;> simp [hp, hq, hr] at h1 ⊢ <;> omega

/-! the nodes below a node -/
def below (c : Corpus) (n : Int) (k : Nat) : Bool := match c.nodes[k]? with
  | some x => decide (x.parent < n)
  | none => false
def cnt (c : Corpus) (n : Int) : Nat := (List.range c.nodes.length).countP (below c n)
theorem cnt_step (c : Corpus) (n : Int) : cnt c (n + 1) = cnt c n + (List.range c.nodes.length).countP (isChild c n) := by
  refine countP_add _ _ _ _ fun k hk => ?_
  unfold below isChild
  cases c.nodes[k]? with
  | none => rfl
  | some x =>
    simp only
    rcases Int.lt_trichotomy x.parent n with h | h | h
    · rw [decide_eq_true (by omega : x.parent < n + 1), decide_eq_true h, decide_eq_false (by omega : ¬ x.parent = n)]; rfl
    · rw [decide_eq_true (by omega : x.parent < n + 1), decide_eq_false (by omega : ¬ x.parent < n), decide_eq_true h]; rfl
    · rw [decide_eq_false (by omega : ¬ x.parent < n + 1), decide_eq_false (by omega : ¬ x.parent < n), decide_eq_false (by omega : ¬ x.parent = n)]; rfl
theorem cnt_le (c : Corpus) (n : Int) : cnt c n ≤ c.nodes.length := by
  have := List.countP_le_length (p := below c n) (l := List.range c.nodes.length)
  simpa [cnt] using this
theorem Made.bounds {s : Nat} {c : Corpus} (h : Made s c) : ∀ (i : Nat) (x : Node), c.nodes[i]? = some x → 0 ≤ x.b ∧ x.b < x.e ∧ x.e ≤ c.tokens.length ∧ -1 ≤ x.parent ∧ x.parent < i := by
  obtain ⟨a, ha⟩ := h.nodes
  intro i x hx
  have := ha.bounds (by omega) i x hx
  exact ⟨this.2.1, this.2.2.1, this.2.2.2.1, this.2.2.2.2.2⟩
theorem cnt_first {s : Nat} {c : Corpus} (h : Made s c) : cnt c (-1) = 0 := by
  refine List.countP_eq_zero.2 fun k hk => ?_
  unfold below
  cases hx : c.nodes[k]? with
  | none => simp
  | some x => have := h.bounds k x hx; simp; omega
theorem cnt_last {s : Nat} {c : Corpus} (h : Made s c) : cnt c c.nodes.length = c.nodes.length := by
  have : (List.range c.nodes.length).countP (below c c.nodes.length) = (List.range c.nodes.length).length := by
    refine List.countP_eq_length.2 fun k hk => ?_
    have hk := List.mem_range.1 hk
    obtain ⟨x, hx⟩ : ∃ x, c.nodes[k]? = some x := ⟨_, List.getElem?_eq_getElem hk⟩
    have := h.bounds k x hx
    simp only [below, hx, decide_eq_true_eq]; omega
  rw [cnt, this, List.length_range]
theorem Grp.len {n a : Int} {ns : List Node} (h : Grp n a ns) (h0 : 0 ≤ n) : (ns.length : Int) ≤ 2 * a := by
  induction h with
  | nil => simp
  | top h1 h2 h3 h4 h5 ih => have := h1.le h0; simp only [List.length_append, List.length_cons, List.length_nil]; omega
  | both h1 h2 h3 h4 h5 h6 h7 h8 h9 ih => have := h1.le h0; simp only [List.length_append, List.length_cons, List.length_nil]; omega
theorem Made.few {s : Nat} {c : Corpus} (h : Made s c) (hs : s ≤ 10) : c.nodes.length ≤ 200 := by
  obtain ⟨a, ha⟩ := h.nodes
  have := ha.len (by omega); have := ha.le (by omega); have := h.tok1; omega

/-! the nodes that hold a span are a chain -/
def holdsN (b e : Int) (x : Node) : Bool := decide (x.b ≤ b) && decide (e ≤ x.e)
def selN (b e : Int) (ns : List Node) : List Int := sel ns.length fun k => match ns[k]? with | some x => holdsN b e x | none => false
theorem sel_congr {n : Nat} {p q : Nat → Bool} (h : ∀ k, k < n → p k = q k) : sel n p = sel n q := by
  simp only [sel]
  congr 1
  exact List.filter_congr fun k hk => h k (List.mem_range.1 hk)
theorem selN_snoc (b e : Int) (ns : List Node) (x : Node) : selN b e (ns ++ [x]) = selN b e ns ++ (if holdsN b e x then [(ns.length : Int)] else []) := by
  unfold selN
  rw [List.length_append, List.length_cons, List.length_nil, sel_succ]
  congr 1
  · exact sel_congr fun k hk => by rw [List.getElem?_append_left hk]
  · simp
def Chain (ns : List Node) : List Int → Prop
  | [] => True
  | [t] => ∃ x, ns[t.toNat]? = some x ∧ 0 ≤ t ∧ x.parent = -1
  | [t, u] => (∃ x, ns[t.toNat]? = some x ∧ 0 ≤ t ∧ x.parent = -1) ∧ ∃ y, ns[u.toNat]? = some y ∧ 0 ≤ u ∧ y.parent = t
  | _ => False
theorem Chain.more {ns ms : List Node} {l : List Int} (h : Chain ns l) : Chain (ns ++ ms) l := by
  have key : ∀ (t : Nat) (x : Node), ns[t]? = some x → (ns ++ ms)[t]? = some x := fun t x hx => by
    rw [List.getElem?_append_left (List.getElem?_eq_some_iff.1 hx).1]; exact hx
  match l, h with
  | [], _ => trivial
  | [t], ⟨x, h1, h2⟩ => exact ⟨x, key _ _ h1, h2⟩
  | [t, u], ⟨⟨x, h1, h2⟩, y, h3, h4⟩ => exact ⟨⟨x, key _ _ h1, h2⟩, y, key _ _ h3, h4⟩
theorem Grp.chain {n a : Int} {ns : List Node} (h : Grp n a ns) (h0 : 0 ≤ n) {b e : Int} (hb : 0 ≤ b) (hbe : b < e) : Chain ns (selN b e ns) ∧ (selN b e ns ≠ [] → e ≤ a) := by
  induction h with
  | nil => exact ⟨trivial, fun h => absurd rfl h⟩
  | @top at_ ns p q s h1 h2 h3 h4 h5 ih =>
    rw [selN_snoc]
    have := h1.le h0
    by_cases hh : holdsN b e ⟨s, p, q, -1⟩ = true
    · rw [if_pos hh]
      simp only [holdsN, Bool.and_eq_true, decide_eq_true_eq] at hh
      have hnil : selN b e ns = [] := by
        by_cases hn : selN b e ns = []
        · exact hn
        · have := ih.2 hn; omega
      rw [hnil]
      exact ⟨⟨⟨s, p, q, -1⟩, by simp, by omega, rfl⟩, fun _ => by omega⟩
    · rw [if_neg hh, List.append_nil]
      exact ⟨ih.1.more, fun hn => by have := ih.2 hn; omega⟩
  | @both at_ ns p q m me s t h1 h2 h3 h4 h5 h6 h7 h8 h9 ih =>
    rw [selN_snoc, selN_snoc]
    have := h1.le h0
    by_cases hh : holdsN b e ⟨s, p, q, -1⟩ = true
    · rw [if_pos hh]
      simp only [holdsN, Bool.and_eq_true, decide_eq_true_eq] at hh
      have hnil : selN b e ns = [] := by
        by_cases hn : selN b e ns = []
        · exact hn
        · have := ih.2 hn; omega
      rw [hnil]
      have hx : ∃ x : Node, (ns ++ [(⟨s, p, q, -1⟩ : Node)] ++ [(⟨t, m, me, ns.length⟩ : Node)])[((ns.length : Nat) : Int).toNat]? = some x ∧ 0 ≤ ((ns.length : Nat) : Int) ∧ x.parent = -1 := ⟨⟨s, p, q, -1⟩, by simp, by omega, rfl⟩
      by_cases hk : holdsN b e ⟨t, m, me, ns.length⟩ = true
      · rw [if_pos hk]
        refine ⟨⟨hx, ⟨t, m, me, ns.length⟩, ?_, by omega, rfl⟩, fun _ => by omega⟩
        rw [List.getElem?_append_right (by simp)]; simp
      · rw [if_neg hk]
        exact ⟨hx, fun _ => by omega⟩
    · rw [if_neg hh, List.append_nil]
      have hk : ¬ holdsN b e ⟨t, m, me, ns.length⟩ = true := by
        simp only [holdsN, Bool.and_eq_true, decide_eq_true_eq] at hh ⊢
        omega
      rw [if_neg hk, List.append_nil]
      exact ⟨ih.1.more.more, fun hn => by have := ih.2 hn; omega⟩
theorem Made.chain {s : Nat} {c : Corpus} (h : Made s c) {b e : Int} (hb : 0 ≤ b) (hbe : b < e) : Chain c.nodes (nodesOf c b e) := by
  unfold nodesOf
  split
  · obtain ⟨a, ha⟩ := h.nodes
    exact (ha.chain (by omega) hb hbe).1
  · trivial
end Go.Proofs.Ytfpdfcjohminlaa
namespace Go.Proofs.Ytfpdfcjohminlaa
open Go.Ab
set_option maxHeartbeats 20000000
set_option linter.unusedSimpArgs false
set_option linter.unusedVariables false
set_option linter.unusedSimpArgs false
set_option linter.unusedVariables false
attribute [local irreducible] Run Ops Op1 Does Val Tr PureF Eff1 NF Rel tnum tnext

theorem parts_law (l : List Int) (hl : l.length ≤ 9223372036854775807) : PureF Try.prog 5 [.d (ints l)] (B true) := by
  refine pure_of fun H => ?_
  refine spec_of Try.func5 (by kernel_rfl) rfl (by simp) ?_
  dsimp only [Try.f5]
  have hl2 : (l.take 120).length ≤ 120 := by simp; omega
  repeat' (first | (refine k_op1 ?_; (first | refine o_sv rfl (by decide) ?_ | (refine k_call ?_; ((refine o_rel1 (corpus_r _ 0 hl2 (by decide)) rfl rfl (by decide) ?_; rintro ⟨c, k1⟩ ⟨⟨s, hs, hc⟩, -⟩; simp only at hc ⊢; have hw := hc.wf (by omega); have ht := hw.tok; have ht0 := hw.tok0; have hnn := hc.nnodes; have hfew := hc.few (by omega); have hcl := cnt_le c))) | (refine k_store ?_; (refine o_store0 rfl rfl rfl rfl rfl rfl ?_)) | (refine k_alloc ?_; (refine o_does (d_alloc rfl rfl (by decide)) ?_)) | (refine o_new (d := 9) rfl hl (by decide) rfl ?_; refine o_ren 9 500 rfl rfl ?_))) | (refine k_ops ?_; (first | refine o_go (by first | exact .inl rfl | exact .inr ⟨_, _, _, rfl, rfl, rfl⟩) ?_ | refine o_nil ?_)) | (refine k_run ?_; (first | refine r_seq ?_ | refine r_region ?_ | refine r_block ?_)))
  refine r_loop ?_
  refine r_less (r_inv (fun q : Int => ⟨61, [(3, .ptr (0, 3) 0), (4, I .i64 ((cnt c q : Nat) : Int)), (5, I .i64 q)], [(3, .box (c.cs.map .d))], H⟩) (fun q => -1 ≤ q ∧ q ≤ c.nodes.length) (fun q => (c.nodes.length - q).toNat) ?_ (-1) ⟨by omega, by omega⟩) (by simp only [cnt_first hc]; rfl) rfl
  intro n ⟨h1, h2⟩ ih
  by_cases hlt : n < c.nodes.length
  · have hch := childrenOf_len c n
    have hcn := hcl n
    have hstep := cnt_step c n
    have hcn1 := hcl (n + 1)
    obtain ⟨xs, hxs⟩ : ∃ xs, childrenOf c n = xs := ⟨_, rfl⟩
    have hxl : xs.length = (List.range c.nodes.length).countP (isChild c n) := by rw [← hxs, childrenOf, if_pos ⟨h1, hlt⟩, sel_count]
    have hxm : ∀ x ∈ xs, 0 ≤ x ∧ x < c.nodes.length ∧ isChild c n x.toNat = true := by intro x hx; rw [← hxs, childrenOf, if_pos ⟨h1, hlt⟩] at hx; exact sel_mem hx
    rw [hxs] at hch
    have hsp : PureF Try.prog 22 [c.d, I .i64 n] (.d (ints xs)) := by rw [← hxs]; exact children_s22 c n (by omega)
    repeat' (first | (refine k_op1 ?_; (first | refine o_sv rfl (by decide) ?_ | (refine k_load ?_; (first | refine o_val (v_loada rfl rfl rfl) rfl rfl (by decide) ?_ | refine o_val (v_load rfl rfl rfl rfl) rfl rfl (by decide) ?_)) | (refine k_field ?_; (refine o_val (v_field rfl rfl) rfl rfl (by decide) ?_)) | (refine k_blt ?_; (refine o_val (v_lenm rfl) rfl rfl (by decide) ?_)) | (refine k_call ?_; (refine o_fn hsp rfl (by decide) ?_)))) | (refine k_ops ?_; (first | refine o_go (by first | exact .inl rfl | exact .inr ⟨_, _, _, rfl, rfl, rfl⟩) ?_ | refine o_nil ?_ | refine o_no rfl rfl (by decide) ?_ | refine o_casep rfl rfl (fun _ => ?_) (fun _ => ?_))) | (refine k_run ?_; (first | refine r_seq ?_ | refine r_region ?_ | refine r_skip ?_ | refine r_block ?_ | refine r_if rfl (fun _ => ?_) (fun _ => ?_) | refine r_exit rfl ?_)))
    · refine r_loop ?_
      refine r_less (r_inv (fun q : Nat => ⟨61, [(3, .ptr (0, 3) 0), (4, I .i64 ((cnt c n + q : Nat) : Int)), (5, I .i64 n), (20, .d (ints xs)), (21, I .i64 xs.length), (22, I .i64 (q : Nat))], [(3, .box (c.cs.map .d))], H⟩) (fun q => q ≤ xs.length) (fun q => xs.length - q) ?_ 0 (Nat.zero_le _)) rfl rfl
      intro k hk ih2
      by_cases hkl : k < xs.length
      · obtain ⟨x, hx⟩ : ∃ x, xs[k]? = some x := ⟨_, List.getElem?_eq_getElem hkl⟩
        have hr := hxm x (List.mem_of_getElem? hx)
        obtain ⟨y, hy⟩ : ∃ y, c.nodes[x.toNat]? = some y := ⟨_, List.getElem?_eq_getElem (by omega)⟩
        have hpar : y.parent = n := by have := hr.2.2; simp only [isChild, hy, decide_eq_true_eq] at this; exact this
        repeat' (first | (refine k_op1 ?_; (first | refine o_sv rfl (by decide) ?_ | (refine k_load ?_; (first | refine o_val (v_load rfl rfl rfl rfl) rfl rfl (by decide) ?_ | refine o_val (v_loade rfl rfl rfl) rfl rfl (by decide) ?_)) | (refine k_field ?_; (first | refine o_val (v_field rfl rfl) rfl rfl (by decide) ?_ | refine o_val (v_fielde rfl rfl) rfl rfl (by decide) ?_)) | (refine k_index ?_; (first | refine o_val (v_index rfl (by omega) (idx hx) rfl) rfl rfl (by decide) ?_ | refine o_val (v_index rfl (by omega) (idxi hy) rfl) rfl rfl (by decide) ?_)) | (refine k_bin ?_; (refine o_val (v_add (wi64 (by omega) (by omega))) rfl rfl (by decide) ?_)) | (refine k_blt ?_; (refine o_val (v_lenm rfl) rfl rfl (by decide) ?_)))) | (refine k_ops ?_; (first | refine o_go (by first | exact .inl rfl | exact .inr ⟨_, _, _, rfl, rfl, rfl⟩) ?_ | refine o_nil ?_ | refine o_no rfl rfl (by decide) ?_ | refine o_casep rfl rfl (fun _ => ?_) (fun _ => ?_) | refine o_casen rfl rfl (fun _ => ?_) (fun _ => ?_))) | (refine k_run ?_; (first | refine r_seq ?_ | refine r_region ?_ | refine r_true rfl ?_ | refine r_skip ?_ | refine r_block ?_ | refine r_inBlock ?_ | refine r_if rfl (fun _ => ?_) (fun _ => ?_) | refine r_exit rfl ?_)))
        all_goals try (exfalso; omega)
        all_goals exact r_less (ih2 (k + 1) (by omega) (by omega)) rfl rfl
      · repeat' (first | (refine k_op1 ?_; (first | refine o_sv rfl (by decide) ?_ | (refine k_bin ?_; (refine o_val (v_add (wi64 (by omega) (by omega))) rfl rfl (by decide) ?_)))) | (refine k_ops ?_; (first | refine o_go (by first | exact .inl rfl | exact .inr ⟨_, _, _, rfl, rfl, rfl⟩) ?_ | refine o_nil ?_)) | (refine k_run ?_; (first | refine r_seq ?_ | refine r_region ?_ | refine r_skip ?_ | refine r_block ?_ | refine r_inBlock ?_ | refine r_if rfl (fun _ => ?_) (fun _ => ?_) | refine r_exit rfl ?_)))
        · exfalso; omega
        · obtain rfl : k = xs.length := by omega
          have e : ((cnt c n + xs.length : Nat) : Int) = ((cnt c (n + 1) : Nat) : Int) := by rw [hstep, hxl]
          exact r_less (ih (n + 1) ⟨by omega, by omega⟩ (by omega)) (by rw [← e]; rfl) rfl
    all_goals (exfalso; omega)
  · obtain rfl : n = c.nodes.length := by omega
    have e := cnt_last hc
    rw [e]
    repeat' (first | (refine k_op1 ?_; (first | refine o_sv rfl (by decide) ?_ | (refine k_load ?_; (first | refine o_val (v_loada rfl rfl rfl) rfl rfl (by decide) ?_ | refine o_val (v_load rfl rfl rfl rfl) rfl rfl (by decide) ?_)) | (refine k_field ?_; (refine o_val (v_field rfl rfl) rfl rfl (by decide) ?_)) | (refine k_blt ?_; (refine o_val (v_lenm rfl) rfl rfl (by decide) ?_)) | (refine k_call ?_; (refine o_fn known_s rfl (by decide) ?_)))) | (refine k_ops ?_; (first | refine o_go (by first | exact .inl rfl | exact .inr ⟨_, _, _, rfl, rfl, rfl⟩) ?_ | refine o_nil ?_ | refine o_no rfl rfl (by decide) ?_ | refine o_casep rfl rfl (fun _ => ?_) (fun _ => ?_))) | (refine k_run ?_; (first | refine r_seq ?_ | refine r_region ?_ | refine r_skip ?_ | refine r_block ?_ | refine r_if rfl (fun _ => ?_) (fun _ => ?_) | refine r_exit rfl ?_)))
    all_goals try (exfalso; omega)
    all_goals exact r_ret Try.func5 _ (res_one rfl rfl) ⟨rfl, rfl⟩
end Go.Proofs.Ytfpdfcjohminlaa
namespace Go.Proofs.Ytfpdfcjohminlaa
open Go.Ab
set_option maxHeartbeats 20000000
set_option linter.unusedSimpArgs false
set_option linter.unusedVariables false
set_option linter.unusedSimpArgs false
set_option linter.unusedVariables false
attribute [local irreducible] Run Ops Op1 Does Val Tr PureF Eff1 NF Rel tnum tnext

theorem Chain.at {ns : List Node} {l : List Int} (h : Chain ns l) (k : Nat) (n : Int) (hn : l[k]? = some n) : 0 ≤ n ∧ ∃ y, ns[n.toNat]? = some y ∧ (k = 0 → y.parent = -1) ∧ (0 < k → l[k - 1]? = some y.parent) := by
  match l, h with
  | [], _ => simp at hn
  | [t], ⟨x, h1, h2, h3⟩ =>
    match k, hn with
    | 0, hn => simp at hn; subst hn; exact ⟨h2, x, h1, fun _ => h3, fun h => by omega⟩
    | k + 1, hn => simp at hn
  | [t, u], ⟨⟨x, h1, h2, h3⟩, y, h4, h5, h6⟩ =>
    match k, hn with
    | 0, hn => simp at hn; subst hn; exact ⟨h2, x, h1, fun _ => h3, fun h => by omega⟩
    | 1, hn => simp at hn; subst hn; exact ⟨h5, y, h4, fun h => by omega, fun _ => by simp [h6]⟩
    | k + 2, hn => simp at hn
theorem Chain.len {ns : List Node} {l : List Int} (h : Chain ns l) : l.length ≤ 2 := by
  match l, h with
  | [], _ => simp
  | [t], _ => simp
  | [t, u], _ => simp
theorem chains_law (l : List Int) (i j : Int) (hl : l.length ≤ 9223372036854775807) : PureF Try.prog 9 [.d (ints l), I .i64 i, I .i64 j] (B true) := by
  refine pure_of fun H => ?_
  refine spec_of Try.func9 (by kernel_rfl) rfl (by simp) ?_
  dsimp only [Try.f9]
  have hl2 : (l.take 120).length ≤ 120 := by simp; omega
  repeat' (first | (refine k_op1 ?_; (first | refine o_sv rfl (by decide) ?_ | (refine k_load ?_; (refine o_val (v_loadp rfl rfl rfl rfl) rfl rfl (by decide) ?_)) | (refine k_bin ?_; (refine o_val (v_add (wi64 (by omega) (by omega))) rfl rfl (by decide) ?_)) | (refine k_blt ?_; (first | refine o_val (v_lenm rfl) rfl rfl (by decide) ?_ | refine o_val v_min rfl rfl (by decide) ?_ | refine o_val v_max rfl rfl (by decide) ?_)) | (refine k_call ?_; (first | (refine o_rel1 (corpus_r _ 0 hl2 (by decide)) rfl rfl (by decide) ?_; rintro ⟨c, k1⟩ ⟨⟨s, hs, hc⟩, -⟩; simp only at hc ⊢; have hw := hc.wf (by omega); have ht := hw.tok; have ht0 := hw.tok0; have hnn := hc.nnodes; have hm1 := modv_range (x := i) (n := (c.tokens.length : Int)) (by omega); have hm2 := modv_range (x := j) (n := (c.tokens.length : Int)) (by omega); have hfew := hc.few (by omega); have hch := hc.chain (b := min (modv i c.tokens.length) (modv j c.tokens.length)) (e := max (modv i c.tokens.length) (modv j c.tokens.length) + 1) (by omega) (by omega)) | refine o_fn (nodes_s28 c _ _ (by omega) (by omega)) rfl (by decide) ?_)) | (refine k_store ?_; (refine o_store0 rfl rfl rfl rfl rfl rfl ?_)) | (refine k_alloc ?_; (refine o_does (d_alloc rfl rfl (by decide)) ?_)) | (refine k_build ?_; (refine o_build rfl rfl rfl rfl rfl rfl rfl (by decide) ?_)) | (refine o_new (d := 13) rfl hl (by decide) rfl ?_; refine o_ren 13 500 rfl rfl ?_))) | (refine k_ops ?_; (first | refine o_go (by first | exact .inl rfl | exact .inr ⟨_, _, _, rfl, rfl, rfl⟩) ?_ | refine o_nil ?_)) | (refine k_run ?_; (first | refine r_seq ?_ | refine r_region ?_ | refine r_block ?_ | refine r_tr ?_)) | (refine k_tr ?_; (first | (refine kt_end ?_; refine t_end mix (by kernel_rfl) ?_) | refine t_sv rfl (by first | exact rfl | exact ⟨_, rfl, rfl, rfl⟩) (by decide) ?_ | (refine kt_load ?_; (refine t_val (v_load rfl rfl rfl rfl) (by first | exact rfl | exact ⟨_, rfl, rfl, rfl⟩) rfl rfl (by decide) ?_)) | (refine kt_field ?_; (refine t_val (v_field rfl rfl) (by first | exact rfl | exact ⟨_, rfl, rfl, rfl⟩) rfl rfl (by decide) ?_)) | (refine kt_blt ?_; (refine t_val (v_lenm rfl) (by first | exact rfl | exact ⟨_, rfl, rfl, rfl⟩) rfl rfl (by decide) ?_)) | (refine kt_call ?_; (refine t_fn (mod_s _ _ (by omega)) (by first | exact rfl | exact ⟨_, rfl, rfl, rfl⟩) rfl (by decide) ?_)))))
  obtain ⟨vi, hvi⟩ : ∃ v, modv i c.tokens.length = v := ⟨_, rfl⟩
  obtain ⟨vj, hvj⟩ : ∃ v, modv j c.tokens.length = v := ⟨_, rfl⟩
  simp only [hvi, hvj] at hm1 hm2 hch ⊢
  obtain ⟨xs, hxs⟩ : ∃ xs, nodesOf c (min vi vj) (max vi vj + 1) = xs := ⟨_, rfl⟩
  rw [hxs] at hch ⊢
  have hcl := hch.len
  have e1 : PureF Try.prog 29 [c.d, I .i64 vi, I .i64 vj] (I .i64 (xs.getLastD (-1))) := by
    have := common_s29 c vi vj (by omega) (by omega)
    rwa [commonOf, if_pos (by simp [token]; omega), hxs] at this
  have e2 : PureF Try.prog 29 [c.d, I .i64 vj, I .i64 vi] (I .i64 (xs.getLastD (-1))) := by
    have := common_s29 c vj vi (by omega) (by omega)
    rwa [commonOf, if_pos (by simp [token]; omega), Int.min_comm, Int.max_comm, hxs] at this
  refine r_loop ?_
  refine r_less (r_inv (fun q : Nat => ⟨109, [(1, I .i64 vi), (2, I .i64 vj), (7, .ptr (0, 7) 0), (8, .d (ints xs)), (35, .d (ints xs)), (36, I .i64 xs.length), (37, I .i64 (q : Nat))], [(7, .box (c.cs.map .d))], H⟩) (fun q => q ≤ xs.length) (fun q => xs.length - q) ?_ 0 (Nat.zero_le _)) rfl rfl
  intro k hk ih
  by_cases hkl : k < xs.length
  · obtain ⟨x, hx⟩ : ∃ x, xs[k]? = some x := ⟨_, List.getElem?_eq_getElem hkl⟩
    obtain ⟨hx0, y, hy, hy0, hy1⟩ := hch.at k x hx
    have hyl := (List.getElem?_eq_some_iff.1 hy).1
    by_cases h0 : k = 0
    · subst h0
      have hpar := hy0 rfl
      repeat' (first | (refine k_op1 ?_; (first | refine o_sv rfl (by decide) ?_ | (refine k_load ?_; (first | refine o_val (v_loada rfl rfl rfl) rfl rfl (by decide) ?_ | refine o_val (v_loade rfl rfl rfl) rfl rfl (by decide) ?_)) | (refine k_index ?_; (refine o_val (v_index rfl (by omega) (idx hx) rfl) rfl rfl (by decide) ?_)) | (refine k_bin ?_; (first | refine o_val (v_add (wi64 (by omega) (by omega))) rfl rfl (by decide) ?_ | refine o_val (v_sub (wi64 (by omega) (by omega))) rfl rfl (by decide) ?_)) | (refine k_blt ?_; (refine o_val (v_lenm rfl) rfl rfl (by decide) ?_)))) | (refine k_ops ?_; (first | refine o_go (by first | exact .inl rfl | exact .inr ⟨_, _, _, rfl, rfl, rfl⟩) ?_ | refine o_nil ?_)) | (refine k_run ?_; (first | refine r_seq ?_ | refine r_region ?_ | refine r_true rfl ?_ | refine r_false rfl ?_ | refine r_skip ?_ | refine r_block ?_ | refine r_tr ?_ | refine r_inBlock ?_ | refine r_if rfl (fun _ => ?_) (fun _ => ?_) | refine r_exit rfl ?_)) | (refine k_tr ?_; (first | (refine kt_end ?_; refine t_end mix (by kernel_rfl) ?_) | refine t_pass rfl rfl (by decide) ?_ | refine t_pass2 rfl rfl (by decide) ?_ | refine t_sv rfl (by first | exact rfl | exact ⟨_, rfl, rfl, rfl⟩) (by decide) ?_ | (refine kt_load ?_; (first | refine t_val (v_load rfl rfl rfl rfl) (by first | exact rfl | exact ⟨_, rfl, rfl, rfl⟩) rfl rfl (by decide) ?_ | refine t_val (v_loade rfl rfl rfl) (by first | exact rfl | exact ⟨_, rfl, rfl, rfl⟩) rfl rfl (by decide) ?_)) | (refine kt_field ?_; (first | refine t_val (v_field rfl rfl) (by first | exact rfl | exact ⟨_, rfl, rfl, rfl⟩) rfl rfl (by decide) ?_ | refine t_val (v_fielde rfl rfl) (by first | exact rfl | exact ⟨_, rfl, rfl, rfl⟩) rfl rfl (by decide) ?_)) | (refine kt_index ?_; (refine t_val (v_index rfl (by omega) (idxi hy) rfl) (by first | exact rfl | exact ⟨_, rfl, rfl, rfl⟩) rfl rfl (by decide) ?_)) | (refine kt_blt ?_; (refine t_val (v_lenm rfl) (by first | exact rfl | exact ⟨_, rfl, rfl, rfl⟩) rfl rfl (by decide) ?_)) | (refine t_either rfl rfl (fun hg => ?_) (fun hg => ?_) <;> simp only [hg] <;> (try simp only [decide_eq_true_eq, decide_eq_false_iff_not, Bool.not_eq_true', Bool.not_eq_false'] at hg)))))
      all_goals try (exfalso; omega)
      all_goals exact r_less (ih 1 (by omega) (by omega)) rfl rfl
    · have hpar := hy1 (by omega)
      have hpar2 : xs[((k : Int) - 1).toNat]? = some y.parent := by rw [← hpar]; congr 1; omega
      repeat' (first | (refine k_op1 ?_; (first | refine o_sv rfl (by decide) ?_ | (refine k_load ?_; (first | refine o_val (v_loada rfl rfl rfl) rfl rfl (by decide) ?_ | refine o_val (v_loade rfl rfl rfl) rfl rfl (by decide) ?_)) | (refine k_index ?_; (refine o_val (v_index rfl (by omega) (idx hx) rfl) rfl rfl (by decide) ?_)) | (refine k_bin ?_; (first | refine o_val (v_add (wi64 (by omega) (by omega))) rfl rfl (by decide) ?_ | refine o_val (v_sub (wi64 (by omega) (by omega))) rfl rfl (by decide) ?_)) | (refine k_blt ?_; (refine o_val (v_lenm rfl) rfl rfl (by decide) ?_)))) | (refine k_ops ?_; (first | refine o_go (by first | exact .inl rfl | exact .inr ⟨_, _, _, rfl, rfl, rfl⟩) ?_ | refine o_nil ?_)) | (refine k_run ?_; (first | refine r_seq ?_ | refine r_region ?_ | refine r_true rfl ?_ | refine r_false rfl ?_ | refine r_skip ?_ | refine r_block ?_ | refine r_tr ?_ | refine r_inBlock ?_ | refine r_if rfl (fun _ => ?_) (fun _ => ?_) | refine r_ifn rfl (fun _ => ?_) (fun _ => ?_) | refine r_exit rfl ?_)) | (refine k_tr ?_; (first | (refine kt_end ?_; refine t_end mix (by kernel_rfl) ?_) | refine t_pass rfl rfl (by decide) ?_ | refine t_pass2 rfl rfl (by decide) ?_ | refine t_sv rfl (by first | exact rfl | exact ⟨_, rfl, rfl, rfl⟩) (by decide) ?_ | (refine kt_load ?_; (first | refine t_val (v_load rfl rfl rfl rfl) (by first | exact rfl | exact ⟨_, rfl, rfl, rfl⟩) rfl rfl (by decide) ?_ | refine t_val (v_loade rfl rfl rfl) (by first | exact rfl | exact ⟨_, rfl, rfl, rfl⟩) rfl rfl (by decide) ?_)) | (refine kt_field ?_; (first | refine t_val (v_field rfl rfl) (by first | exact rfl | exact ⟨_, rfl, rfl, rfl⟩) rfl rfl (by decide) ?_ | refine t_val (v_fielde rfl rfl) (by first | exact rfl | exact ⟨_, rfl, rfl, rfl⟩) rfl rfl (by decide) ?_)) | (refine kt_index ?_; (first | refine t_val (v_index rfl (by omega) (idxi hy) rfl) (by first | exact rfl | exact ⟨_, rfl, rfl, rfl⟩) rfl rfl (by decide) ?_ | refine t_val (v_index rfl (by omega) (idxi hpar2) rfl) (by first | exact rfl | exact ⟨_, rfl, rfl, rfl⟩) rfl rfl (by decide) ?_)) | (refine kt_bin ?_; (refine t_val (v_sub (wi64 (by omega) (by omega))) (by first | exact rfl | exact ⟨_, rfl, rfl, rfl⟩) rfl rfl (by decide) ?_)) | (refine kt_blt ?_; (refine t_val (v_lenm rfl) (by first | exact rfl | exact ⟨_, rfl, rfl, rfl⟩) rfl rfl (by decide) ?_)) | (refine t_either rfl rfl (fun hg => ?_) (fun hg => ?_) <;> simp only [hg] <;> (try simp only [decide_eq_true_eq, decide_eq_false_iff_not, Bool.not_eq_true', Bool.not_eq_false'] at hg)))))
      all_goals try (exfalso; omega)
      all_goals exact r_less (ih (k + 1) (by omega) (by omega)) rfl rfl
  · obtain rfl : k = xs.length := by omega
    rcases last_cases xs with hnil | ⟨y, hy, hl2⟩
    · subst hnil
      repeat' (first | (refine k_op1 ?_; (first | refine o_sv rfl (by decide) ?_ | (refine k_load ?_; (refine o_val (v_loada rfl rfl rfl) rfl rfl (by decide) ?_)) | (refine k_blt ?_; (refine o_val (v_lenm rfl) rfl rfl (by decide) ?_)) | (refine k_call ?_; (first | refine o_fn e1 rfl (by decide) ?_ | refine o_fn e2 rfl (by decide) ?_ | refine o_fn known_s rfl (by decide) ?_)))) | (refine k_ops ?_; (first | refine o_go (by first | exact .inl rfl | exact .inr ⟨_, _, _, rfl, rfl, rfl⟩) ?_ | refine o_nil ?_)) | (refine k_run ?_; (first | refine r_seq ?_ | refine r_region ?_ | refine r_false rfl ?_ | refine r_skip ?_ | refine r_exit rfl ?_)))
      all_goals try (exfalso; simp_all; done)
      all_goals exact r_ret Try.func9 _ (res_one rfl rfl) ⟨rfl, rfl⟩
    · have hyl := (List.getElem?_eq_some_iff.1 hy).1
      rw [hl2] at e1 e2
      repeat' (first | (refine k_op1 ?_; (first | refine o_sv rfl (by decide) ?_ | (refine k_load ?_; (first | refine o_val (v_loada rfl rfl rfl) rfl rfl (by decide) ?_ | refine o_val (v_loade rfl rfl rfl) rfl rfl (by decide) ?_)) | (refine k_index ?_; (refine o_val (v_index rfl (by omega) (idxi hy) rfl) rfl rfl (by decide) ?_)) | (refine k_bin ?_; (refine o_val (v_sub (wi64 (by omega) (by omega))) rfl rfl (by decide) ?_)) | (refine k_blt ?_; (refine o_val (v_lenm rfl) rfl rfl (by decide) ?_)) | (refine k_call ?_; (first | refine o_fn e1 rfl (by decide) ?_ | refine o_fn e2 rfl (by decide) ?_ | refine o_fn known_s rfl (by decide) ?_)))) | (refine k_ops ?_; (first | refine o_go (by first | exact .inl rfl | exact .inr ⟨_, _, _, rfl, rfl, rfl⟩) ?_ | refine o_nil ?_ | refine o_no rfl rfl (by decide) ?_ | refine o_casep rfl rfl (fun _ => ?_) (fun _ => ?_))) | (refine k_run ?_; (first | refine r_seq ?_ | refine r_region ?_ | refine r_skip ?_ | refine r_block ?_ | refine r_if rfl (fun _ => ?_) (fun _ => ?_) | refine r_exit rfl ?_)))
      all_goals try (exfalso; omega)
      all_goals exact r_ret Try.func9 _ (res_one rfl rfl) ⟨rfl, rfl⟩
end Go.Proofs.Ytfpdfcjohminlaa
namespace Go.Proofs.Ytfpdfcjohminlaa
open Go.Ab
set_option maxHeartbeats 20000000
set_option linter.unusedSimpArgs false
set_option linter.unusedVariables false
set_option linter.unusedSimpArgs false
set_option linter.unusedVariables false
attribute [local irreducible] Run Ops Op1 Does Val Tr PureF Eff1 NF Rel tnum tnext

theorem way_step {c : Corpus} (h : Wf c) {a : Int} (ha : token c a = true) : way c a = a :: (if head c a = -1 then [] else way c (head c a)) := by
  rw [way, up_step h ha]
  by_cases e : head c a = -1
  · rw [if_pos e, if_pos e]
  · rw [if_neg e, if_neg e, way]
theorem way_drop {c : Corpus} (h : Wf c) : ∀ (k : Nat) (a : Int), token c a = true → ∀ x, (way c a)[k]? = some x → (way c a).drop k = way c x
  | 0, a, ha, x, hx => by
    rw [way] at hx; simp at hx; subst hx; rfl
  | k + 1, a, ha, x, hx => by
    rw [way_step h ha] at hx ⊢
    by_cases e : head c a = -1
    · rw [if_pos e] at hx; simp at hx
    · rw [if_neg e] at hx ⊢
      rw [List.getElem?_cons_succ] at hx
      rw [List.drop_succ_cons]
      exact way_drop h k _ (head_token h ((token_iff c a).1 ha).1 e) x hx
theorem way_pos (c : Corpus) (a : Int) : 0 < (way c a).length := by simp [way]
theorem way_at {c : Corpus} (h : Wf c) {a : Int} (ha : token c a = true) {x : Int} (hx : x ∈ way c a) : ∃ k, k < (way c a).length ∧ (way c a)[k]? = some x ∧ (way c a).drop k = way c x := by
  obtain ⟨k, hk⟩ := List.getElem?_of_mem hx
  exact ⟨k, (List.getElem?_eq_some_iff.1 hk).1, hk, way_drop h k a ha x hk⟩
theorem way_inj {c : Corpus} (h : Wf c) {a : Int} (ha : token c a = true) {x : Int} {j k : Nat} (hj : (way c a)[j]? = some x) (hk : (way c a)[k]? = some x) : j = k := by
  have e1 := way_drop h j a ha x hj
  have e2 := way_drop h k a ha x hk
  have := congrArg List.length (e1.trans e2.symm)
  have l1 := (List.getElem?_eq_some_iff.1 hj).1
  have l2 := (List.getElem?_eq_some_iff.1 hk).1
  simp only [List.length_drop] at this
  omega
/-- the route to a token on the way -/
theorem routeOf_way {c : Corpus} (h : Wf c) {a : Int} (ha : token c a = true) {k : Nat} {x : Int} (hx : (way c a)[k]? = some x) : routeOf c a x = some (((way c a).take k).map (relAt c)) := by
  have hb := way_token h ha x (List.mem_of_getElem? hx)
  rw [routeOf, if_pos (by simp [ha, hb])]
  exact routeGo_at c x (way c a) k (fun j hj e => by have := way_inj h ha e hx; omega) hx
theorem way_sub {c : Corpus} (h : Wf c) {a x : Int} (ha : token c a = true) (hx : x ∈ way c a) : ∀ y ∈ way c x, y ∈ way c a := by
  obtain ⟨k, _, _, e⟩ := way_at h ha hx
  intro y hy
  rw [← e] at hy
  exact List.mem_of_mem_drop hy
theorem way_anti {c : Corpus} (h : Wf c) {x y : Int} (hx : token c x = true) (hy : token c y = true) (h1 : y ∈ way c x) (h2 : x ∈ way c y) : x = y := by
  obtain ⟨k, k1, k2, k3⟩ := way_at h hx h1
  obtain ⟨j, j1, j2, j3⟩ := way_at h hy h2
  have e1 := congrArg List.length k3
  have e2 := congrArg List.length j3
  simp only [List.length_drop] at e1 e2
  have : k = 0 := by omega
  subst this
  rw [way] at k2; simp at k2; exact k2
/-- the first token on both ways, if there is one -/
theorem meet_cases {c : Corpus} (h : Wf c) {a b : Int} (ha : token c a = true) (hb : token c b = true) :
    (meetOf c a b = -1 ∧ ∀ x ∈ way c a, x ∉ way c b) ∨ (meetOf c a b ∈ way c a ∧ meetOf c a b ∈ way c b ∧ ∀ y ∈ way c a, y ∈ way c b → y ∈ way c (meetOf c a b)) := by
  rw [meetOf, if_pos (by simp [ha, hb])]
  cases hf : (way c a).find? (inB (way c b)) with
  | none =>
    left
    refine ⟨rfl, fun x hx hxb => ?_⟩
    have := List.find?_eq_none.1 hf x hx
    simp [inB] at this; exact this hxb
  | some x =>
    right
    rw [List.find?_eq_some_iff_append] at hf
    obtain ⟨hp, u1, u2, e, hno⟩ := hf
    simp only [inB, decide_eq_true_eq] at hp
    simp only [Option.getD_some]
    have hx : x ∈ way c a := by rw [e]; simp
    refine ⟨hx, hp, fun y hy hyb => ?_⟩
    have hk : (way c a)[u1.length]? = some x := by rw [e, List.getElem?_append_right (Nat.le_refl _)]; simp
    have hd := way_drop h _ a ha x hk
    rw [e, List.drop_left] at hd
    rw [← hd]
    rw [e] at hy
    rcases List.mem_append.1 hy with hy | hy
    · have := hno y hy
      simp [inB] at this; exact absurd hyb this
    · exact hy
theorem meet_comm {c : Corpus} (h : Wf c) {a b : Int} (ha : token c a = true) (hb : token c b = true) : meetOf c b a = meetOf c a b := by
  rcases meet_cases h ha hb with ⟨e1, n1⟩ | ⟨m1, m2, m3⟩ <;> rcases meet_cases h hb ha with ⟨e2, n2⟩ | ⟨p1, p2, p3⟩
  · rw [e1, e2]
  · exact absurd p1 (n1 _ p2)
  · exact absurd m1 (n2 _ m2)
  · exact way_anti h (way_token h hb _ p1) (way_token h ha _ m1) (p3 _ m2 m1) (m3 _ p2 p1)
theorem way_last {c : Corpus} (h : Wf c) {a x : Int} (ha : token c a = true) (hx : x ∈ way c a) : (way c x)[(way c x).length - 1]? = (way c a)[(way c a).length - 1]? := by
  obtain ⟨k, k1, k2, k3⟩ := way_at h ha hx
  rw [← k3, List.getElem?_drop, List.length_drop]
  congr 1; omega
theorem meet_root {c : Corpus} (h : Wf c) {a b : Int} (ha : token c a = true) (hb : token c b = true) {p q : Int} (hp : (way c a)[(way c a).length - 1]? = some p) (hq : (way c b)[(way c b).length - 1]? = some q) : meetOf c a b = -1 ↔ p ≠ q := by
  rcases meet_cases h ha hb with ⟨e1, n1⟩ | ⟨m1, m2, m3⟩
  · refine ⟨fun _ e => ?_, fun _ => e1⟩
    subst e
    exact n1 p (List.mem_of_getElem? hp) (List.mem_of_getElem? hq)
  · have h1 := way_last h ha m1
    have h2 := way_last h hb m2
    rw [hp] at h1; rw [hq, h1] at h2
    have hm := (token_iff c _).1 (way_token h ha _ m1)
    constructor
    · intro e; rw [e] at hm; omega
    · intro e; exact absurd (by simpa using h2) e
theorem meet_route {c : Corpus} (h : Wf c) {a b : Int} (ha : token c a = true) (hb : token c b = true) (hm : meetOf c a b ≠ -1) : (routeOf c a (meetOf c a b)).isSome = true ∧ (routeOf c b (meetOf c a b)).isSome = true := by
  rcases meet_cases h ha hb with ⟨e1, n1⟩ | ⟨m1, m2, m3⟩
  · exact absurd e1 hm
  · obtain ⟨k, _, k2, _⟩ := way_at h ha m1
    obtain ⟨j, _, j2, _⟩ := way_at h hb m2
    rw [routeOf_way h ha k2, routeOf_way h hb j2]
    exact ⟨rfl, rfl⟩
theorem routeV_some (r : List Str) : routeV (some r) = .tup [.d (strs r), B true] := rfl
theorem meets_law (l : List Int) (i j : Int) (hl : l.length ≤ 9223372036854775807) : PureF Try.prog 8 [.d (ints l), I .i64 i, I .i64 j] (B true) := by
  refine pure_of fun H => ?_
  refine spec_of Try.func8 (by kernel_rfl) rfl (by simp) ?_
  dsimp only [Try.f8]
  have hl2 : (l.take 120).length ≤ 120 := by simp; omega
  repeat' (first | (refine k_op1 ?_; (first | refine o_sv rfl (by decide) ?_ | (refine k_load ?_; (refine o_val (v_loadp rfl rfl rfl rfl) rfl rfl (by decide) ?_)) | (refine k_call ?_; (first | (refine o_rel1 (corpus_r _ 0 hl2 (by decide)) rfl rfl (by decide) ?_; rintro ⟨c, k1⟩ ⟨⟨s, hs, hc⟩, -⟩; simp only at hc ⊢; have hw := hc.wf (by omega); have ht := hw.tok; have ht0 := hw.tok0; have hnn := hc.nnodes; have hm1 := modv_range (x := i) (n := (c.tokens.length : Int)) (by omega); have hm2 := modv_range (x := j) (n := (c.tokens.length : Int)) (by omega); have hul := up_len c) | refine o_fn (meet_s hw _ _) rfl (by decide) ?_)) | (refine k_store ?_; (refine o_store0 rfl rfl rfl rfl rfl rfl ?_)) | (refine k_alloc ?_; (refine o_does (d_alloc rfl rfl (by decide)) ?_)) | (refine o_new (d := 16) rfl hl (by decide) rfl ?_; refine o_ren 16 500 rfl rfl ?_))) | (refine k_ops ?_; (first | refine o_go (by first | exact .inl rfl | exact .inr ⟨_, _, _, rfl, rfl, rfl⟩) ?_ | refine o_nil ?_)) | (refine k_run ?_; (first | refine r_seq ?_ | refine r_region ?_ | refine r_tr ?_)) | (refine k_tr ?_; (first | (refine kt_end ?_; refine t_end mix (by kernel_rfl) ?_) | refine t_sv rfl (by first | exact rfl | exact ⟨_, rfl, rfl, rfl⟩) (by decide) ?_ | (refine kt_load ?_; (first | refine t_val (v_load rfl rfl rfl rfl) (by first | exact rfl | exact ⟨_, rfl, rfl, rfl⟩) rfl rfl (by decide) ?_ | refine t_val (v_loadp rfl rfl rfl rfl) (by first | exact rfl | exact ⟨_, rfl, rfl, rfl⟩) rfl rfl (by decide) ?_)) | (refine kt_field ?_; (refine t_val (v_field rfl rfl) (by first | exact rfl | exact ⟨_, rfl, rfl, rfl⟩) rfl rfl (by decide) ?_)) | (refine kt_blt ?_; (refine t_val (v_lenm rfl) (by first | exact rfl | exact ⟨_, rfl, rfl, rfl⟩) rfl rfl (by decide) ?_)) | (refine kt_call ?_; (refine t_fn (mod_s _ _ (by omega)) (by first | exact rfl | exact ⟨_, rfl, rfl, rfl⟩) rfl (by decide) ?_)) | (refine kt_lit ?_; (refine t_lito (lp := [(0, .tmp 32)]) (ys := [modv i c.tokens.length].map fun x => [Dint x]) (by first | exact rfl | exact ⟨_, rfl, rfl, rfl⟩) rfl rfl rfl rfl rfl rfl rfl rfl rfl (by decide) ?_)))))
  obtain ⟨a, hva⟩ : ∃ v, modv i c.tokens.length = v := ⟨_, rfl⟩
  obtain ⟨b, hvb⟩ : ∃ v, modv j c.tokens.length = v := ⟨_, rfl⟩
  simp only [hva, hvb] at hm1 hm2 ⊢
  have ha : token c a = true := (token_iff c a).2 hm1
  have hb : token c b = true := (token_iff c b).2 hm2
  have hla := hul a
  have hlb := hul b
  obtain ⟨p, hp⟩ : ∃ p, (way c a)[(way c a).length - 1]? = some p := ⟨_, List.getElem?_eq_getElem (by have := way_pos c a; omega)⟩
  obtain ⟨q, hq⟩ : ∃ p, (way c b)[(way c b).length - 1]? = some p := ⟨_, List.getElem?_eq_getElem (by have := way_pos c b; omega)⟩
  have hroot := meet_root hw ha hb hp hq
  have hcomm := meet_comm hw ha hb
  have hroute := meet_route hw ha hb
  have hwa : (way c a).length = (up c a).length + 1 := by simp [way]
  have hwb : (way c b).length = (up c b).length + 1 := by simp [way]
  have hwa2 : ([a] ++ up c a).length = (up c a).length + 1 := by simp
  have hwb2 : ([b] ++ up c b).length = (up c b).length + 1 := by simp
  have hpp : (way c a)[(((way c a).length : Int) - 1).toNat]? = some p := by rw [← hp]; congr 1; omega
  have hqq : (way c b)[(((way c b).length : Int) - 1).toNat]? = some q := by rw [← hq]; congr 1; omega
  have hsp : PureF Try.prog 26 [c.d, I .i64 b, I .i64 a] (I .i64 (meetOf c a b)) := by rw [← hcomm]; exact meet_s hw b a
  obtain ⟨m, hmm⟩ : ∃ m, meetOf c a b = m := ⟨_, rfl⟩
  simp only [hmm] at hroot hroute hsp ⊢
  by_cases hmz : m = -1
  · have hpq := hroot.1 hmz
    subst hmz
    repeat' (first | (refine k_op1 ?_; (first | refine o_sv rfl (by decide) ?_ | (refine k_call ?_; (refine o_fn known_s rfl (by decide) ?_)))) | (refine k_ops ?_; (first | refine o_go (by first | exact .inl rfl | exact .inr ⟨_, _, _, rfl, rfl, rfl⟩) ?_ | refine o_nil ?_)) | (refine k_run ?_; (first | refine r_seq ?_ | refine r_region ?_ | refine r_true rfl ?_ | refine r_skip ?_ | refine r_tr ?_ | refine r_ifn rfl (fun _ => ?_) (fun _ => ?_))) | (refine k_tr ?_; (first | (refine kt_end ?_; refine t_end mix (by kernel_rfl) ?_) | refine t_sv rfl (by first | exact rfl | exact ⟨_, rfl, rfl, rfl⟩) (by decide) ?_ | (refine kt_load ?_; (first | refine t_val (v_rloadm hpp rfl rfl rfl) (by first | exact rfl | exact ⟨_, rfl, rfl, rfl⟩) rfl rfl (by decide) ?_ | refine t_val (v_rloadm hqq rfl rfl rfl) (by first | exact rfl | exact ⟨_, rfl, rfl, rfl⟩) rfl rfl (by decide) ?_ | refine t_val (v_loadp rfl rfl rfl rfl) (by first | exact rfl | exact ⟨_, rfl, rfl, rfl⟩) rfl rfl (by decide) ?_)) | (refine kt_index ?_; (refine t_val (v_rindex rfl (by omega) (by simp only [List.length_map]; omega) rfl) (by first | exact rfl | exact ⟨_, rfl, rfl, rfl⟩) rfl rfl (by decide) ?_)) | (refine kt_bin ?_; (first | refine t_val (v_sub (wi64 (by omega) (by omega))) (by first | exact rfl | exact ⟨_, rfl, rfl, rfl⟩) rfl rfl (by decide) ?_ | refine t_val (v_bneq rfl) (by first | exact rfl | exact ⟨_, rfl, rfl, rfl⟩) rfl rfl (by decide) ?_)) | (refine kt_blt ?_; (first | refine t_apps (by first | exact rfl | exact ⟨_, rfl, rfl, rfl⟩) rfl rfl rfl rfl rfl (fun _ => rfl) rfl rfl (by decide) (by simp only [List.length_cons, List.length_nil]; omega) ?_ | refine t_val (v_lenrm rfl) (by first | exact rfl | exact ⟨_, rfl, rfl, rfl⟩) rfl rfl (by decide) ?_)) | (refine kt_call ?_; (first | refine t_fn (up_s c _ (by omega)) (by first | exact rfl | exact ⟨_, rfl, rfl, rfl⟩) rfl (by decide) ?_ | refine t_fn hsp (by first | exact rfl | exact ⟨_, rfl, rfl, rfl⟩) rfl (by decide) ?_)) | (refine kt_lit ?_; (refine t_lito (lp := [(0, .tmp 38)]) (ys := [b].map fun x => [Dint x]) (by first | exact rfl | exact ⟨_, rfl, rfl, rfl⟩) rfl rfl rfl rfl rfl rfl rfl rfl rfl (by decide) ?_)))))
    all_goals first
      | exact r_ret Try.func8 _ (res_one rfl rfl) ⟨rfl, rfl⟩
      | (exfalso; simp_all; done)
  · have hpq : p = q := by
      by_cases e : p = q
      · exact e
      · exact absurd (hroot.2 e) hmz
    subst hpq
    obtain ⟨h1, h2⟩ := hroute hmz
    obtain ⟨r1, e1⟩ := Option.isSome_iff_exists.1 h1
    obtain ⟨r2, e2⟩ := Option.isSome_iff_exists.1 h2
    have s1 : PureF Try.prog 23 [c.d, I .i64 a, I .i64 m] (.tup [.d (strs r1), B true]) := by have := route_s hw a m; rwa [e1] at this
    have s2 : PureF Try.prog 23 [c.d, I .i64 b, I .i64 m] (.tup [.d (strs r2), B true]) := by have := route_s hw b m; rwa [e2] at this
    repeat' (first | (refine k_op1 ?_; (first | refine o_sv rfl (by decide) ?_ | (refine k_load ?_; (refine o_val (v_loadp rfl rfl rfl rfl) rfl rfl (by decide) ?_)) | (refine k_call ?_; (first | refine o_fn s1 rfl (by decide) ?_ | refine o_fn s2 rfl (by decide) ?_ | refine o_fn known_s rfl (by decide) ?_)))) | (refine k_ops ?_; (first | refine o_go (by first | exact .inl rfl | exact .inr ⟨_, _, _, rfl, rfl, rfl⟩) ?_ | refine o_nil ?_)) | (refine k_run ?_; (first | refine r_seq ?_ | refine r_region ?_ | refine r_skip ?_ | refine r_tr ?_ | refine r_if rfl (fun _ => ?_) (fun _ => ?_) | refine r_ifn rfl (fun _ => ?_) (fun _ => ?_))) | (refine k_tr ?_; (first | (refine kt_end ?_; refine t_end mix (by kernel_rfl) ?_) | refine t_sv rfl (by first | exact rfl | exact ⟨_, rfl, rfl, rfl⟩) (by decide) ?_ | (refine kt_load ?_; (first | refine t_val (v_rloadm hpp rfl rfl rfl) (by first | exact rfl | exact ⟨_, rfl, rfl, rfl⟩) rfl rfl (by decide) ?_ | refine t_val (v_rloadm hqq rfl rfl rfl) (by first | exact rfl | exact ⟨_, rfl, rfl, rfl⟩) rfl rfl (by decide) ?_ | refine t_val (v_loadp rfl rfl rfl rfl) (by first | exact rfl | exact ⟨_, rfl, rfl, rfl⟩) rfl rfl (by decide) ?_)) | (refine kt_index ?_; (refine t_val (v_rindex rfl (by omega) (by simp only [List.length_map]; omega) rfl) (by first | exact rfl | exact ⟨_, rfl, rfl, rfl⟩) rfl rfl (by decide) ?_)) | (refine kt_bin ?_; (first | refine t_val (v_sub (wi64 (by omega) (by omega))) (by first | exact rfl | exact ⟨_, rfl, rfl, rfl⟩) rfl rfl (by decide) ?_ | refine t_val (v_bneq rfl) (by first | exact rfl | exact ⟨_, rfl, rfl, rfl⟩) rfl rfl (by decide) ?_)) | (refine kt_blt ?_; (first | refine t_apps (by first | exact rfl | exact ⟨_, rfl, rfl, rfl⟩) rfl rfl rfl rfl rfl (fun _ => rfl) rfl rfl (by decide) (by simp only [List.length_cons, List.length_nil]; omega) ?_ | refine t_val (v_lenrm rfl) (by first | exact rfl | exact ⟨_, rfl, rfl, rfl⟩) rfl rfl (by decide) ?_)) | (refine kt_call ?_; (first | refine t_fn (up_s c _ (by omega)) (by first | exact rfl | exact ⟨_, rfl, rfl, rfl⟩) rfl (by decide) ?_ | refine t_fn hsp (by first | exact rfl | exact ⟨_, rfl, rfl, rfl⟩) rfl (by decide) ?_)) | (refine kt_lit ?_; (refine t_lito (lp := [(0, .tmp 38)]) (ys := [b].map fun x => [Dint x]) (by first | exact rfl | exact ⟨_, rfl, rfl, rfl⟩) rfl rfl rfl rfl rfl rfl rfl rfl rfl (by decide) ?_)) | (refine t_either rfl rfl (fun hg => ?_) (fun hg => ?_) <;> simp only [hg] <;> (try simp only [decide_eq_true_eq, decide_eq_false_iff_not, Bool.not_eq_true', Bool.not_eq_false'] at hg)))))
    all_goals first
      | exact r_ret Try.func8 _ (res_one rfl rfl) ⟨rfl, rfl⟩
      | (exfalso; simp_all; done)
end Go.Proofs.Ytfpdfcjohminlaa
namespace Go.Proofs.Ytfpdfcjohminlaa
open Go.Ab
set_option maxHeartbeats 20000000
set_option linter.unusedSimpArgs false
set_option linter.unusedVariables false
set_option linter.unusedSimpArgs false
set_option linter.unusedVariables false
attribute [local irreducible] Run Ops Op1 Does Val Tr PureF Eff1 NF Rel tnum tnext

theorem routes_law (l : List Int) (i j : Int) (hl : l.length ≤ 9223372036854775807) : PureF Try.prog 7 [.d (ints l), I .i64 i, I .i64 j] (B true) := by
  refine pure_of fun H => ?_
  refine spec_of Try.func7 (by kernel_rfl) rfl (by simp) ?_
  dsimp only [Try.f7]
  have hl2 : (l.take 120).length ≤ 120 := by simp; omega
  repeat' (first | (refine k_op1 ?_; (first | refine o_sv rfl (by decide) ?_ | (refine k_load ?_; (first | refine o_val (v_load rfl rfl rfl rfl) rfl rfl (by decide) ?_ | refine o_val (v_loadp rfl rfl rfl rfl) rfl rfl (by decide) ?_)) | (refine k_field ?_; (refine o_val (v_field rfl rfl) rfl rfl (by decide) ?_)) | (refine k_blt ?_; (first | refine o_apps (d := 28) rfl rfl rfl rfl rfl (fun _ => rfl) rfl rfl (by decide) (by simp only [List.length_cons, List.length_nil]; omega) ?_ | refine o_val (v_lenm rfl) rfl rfl (by decide) ?_ | refine o_val (v_lenrm rfl) rfl rfl (by decide) ?_)) | (refine k_call ?_; (first | (refine o_rel1 (corpus_r _ 0 hl2 (by decide)) rfl rfl (by decide) ?_; rintro ⟨c, k1⟩ ⟨⟨s, hs, hc⟩, -⟩; simp only at hc ⊢; have hw := hc.wf (by omega); have ht := hw.tok; have ht0 := hw.tok0; have hnn := hc.nnodes; have hul := up_len c) | (refine o_nf (d := 22) (mod_nf _ _ (by omega)) rfl (by decide) (fun p hp => ?_); obtain ⟨a, ha0, ha1, rfl⟩ := hp; have hua := hul a; have hla : ([a] ++ up c a).length = (up c a).length + 1 := by simp) | refine o_fn (up_s c _ (by omega)) rfl (by decide) ?_ | (refine o_nf (d := 32) (mod_nf _ _ (by omega)) rfl (by decide) (fun p hp => ?_); obtain ⟨b, hb0, hb1, rfl⟩ := hp))) | (refine k_store ?_; (refine o_store0 rfl rfl rfl rfl rfl rfl ?_)) | (refine k_alloc ?_; (refine o_does (d_alloc rfl rfl (by decide)) ?_)) | (refine k_lit ?_; (refine o_lito (d := 24) (lp := [(0, .tmp 23)]) (ys := [a].map fun x => [Dint x]) rfl rfl rfl rfl rfl rfl rfl rfl rfl (by decide) ?_)) | (refine o_new (d := 16) rfl hl (by decide) rfl ?_; refine o_ren 16 500 rfl rfl ?_))) | (refine k_ops ?_; (first | refine o_go (by first | exact .inl rfl | exact .inr ⟨_, _, _, rfl, rfl, rfl⟩) ?_ | refine o_nil ?_)) | (refine k_run ?_; (first | refine r_seq ?_ | refine r_region ?_ | refine r_tr ?_)) | (refine k_tr ?_; (first | refine t_sv rfl (by first | exact rfl | exact ⟨_, rfl, rfl, rfl⟩) (by decide) ?_ | (refine kt_load ?_; (refine t_val (v_loadp rfl rfl rfl rfl) (by first | exact rfl | exact ⟨_, rfl, rfl, rfl⟩) rfl rfl (by decide) ?_)))))
  have ha : token c a = true := (token_iff c a).2 ⟨ha0, ha1⟩
  have hW : way c a = [a] ++ up c a := rfl
  obtain ⟨x, hx⟩ : ∃ x, (way c a)[b.toNat]? = some x := ⟨_, List.getElem?_eq_getElem (by rw [hW]; omega)⟩
  obtain ⟨z, hz⟩ : ∃ z, (way c a)[(way c a).length - 1]? = some z := ⟨_, List.getElem?_eq_getElem (by rw [hW]; omega)⟩
  have hz2 : (way c a)[(((way c a).length : Int) - 1).toNat]? = some z := by rw [← hz]; congr 1; rw [hW]; omega
  have hxt := way_token hw ha x (List.mem_of_getElem? hx)
  have hd := way_drop hw _ a ha x hx
  have e1 := routeOf_way hw ha hx
  have hzx : (way c x)[(way c a).length - 1 - b.toNat]? = some z := by rw [← hd, List.getElem?_drop, ← hz]; congr 1; rw [hW]; omega
  have e2 := routeOf_way hw hxt hzx
  have e3 := routeOf_way hw ha hz
  have hcat : [] ++ ((way c a).take b.toNat).map (relAt c) ++ ((way c x).take ((way c a).length - 1 - b.toNat)).map (relAt c) = ((way c a).take ((way c a).length - 1)).map (relAt c) := by
    rw [List.nil_append, ← List.map_append, ← hd, ← List.take_add]
    congr 2; rw [hW]; omega
  have hal : ((((way c a).take b.toNat).map (relAt c)).length : Int) = b := by simp only [List.length_map, List.length_take]; rw [hW]; omega
  have hbl : (((way c x).take ((way c a).length - 1 - b.toNat)).map (relAt c)).length ≤ 2000 := by simp only [List.length_map, List.length_take]; rw [hW]; omega
  have hcl : (((way c a).take ((way c a).length - 1)).map (relAt c)).length ≤ 2000 := by simp only [List.length_map, List.length_take]; rw [hW]; omega
  generalize ((way c a).take b.toNat).map (relAt c) = ra at *
  generalize ((way c x).take ((way c a).length - 1 - b.toNat)).map (relAt c) = rb at *
  generalize ((way c a).take ((way c a).length - 1)).map (relAt c) = rc at *
  have s1 : PureF Try.prog 23 [c.d, I .i64 a, .d (Dint x)] (.tup [.d (strs ra), B true]) := by have := route_s hw a x; rwa [e1] at this
  have s2 : PureF Try.prog 23 [c.d, .d (Dint x), .d (Dint z)] (.tup [.d (strs rb), B true]) := by have := route_s hw x z; rwa [e2] at this
  have s3 : PureF Try.prog 23 [c.d, I .i64 a, .d (Dint z)] (.tup [.d (strs rc), B true]) := by have := route_s hw a z; rwa [e3] at this
  have s4 : PureF Try.prog 25 [.d (strs ([] ++ ra ++ rb)), .d (strs rc)] (B true) := by rw [hcat]; exact texts_same rc (by omega)
  repeat' (first | (refine k_op1 ?_; (first | refine o_sv rfl (by decide) ?_ | (refine k_blt ?_; (first | (refine o_apps (d := 88) rfl rfl rfl rfl rfl (fun _ => rfl) rfl rfl (by decide) (by simp only [List.length_append, List.length_nil]; omega) ?_; refine o_freeze 88 rfl ?_) | refine o_apps (d := 86) rfl rfl rfl rfl rfl (fun _ => rfl) rfl rfl (by decide) (by simp only [List.length_nil]; omega) ?_ | refine o_val (v_lenm rfl) rfl rfl (by decide) ?_)) | (refine k_call ?_; (first | refine o_fn s4 rfl (by decide) ?_ | refine o_fn known_s rfl (by decide) ?_)) | (refine k_lit ?_; (refine o_lito (d := 84) (lp := []) (ys := ([] : List Str).map fun x => [Dstr x]) rfl rfl rfl rfl rfl rfl rfl rfl rfl (by decide) ?_)))) | (refine k_ops ?_; (first | refine o_go (by first | exact .inl rfl | exact .inr ⟨_, _, _, rfl, rfl, rfl⟩) ?_ | refine o_nil ?_ | refine o_no rfl rfl (by decide) ?_ | refine o_casep rfl rfl (fun _ => ?_) (fun _ => ?_))) | (refine k_run ?_; (first | refine r_seq ?_ | refine r_region ?_ | refine r_tr ?_)) | (refine k_tr ?_; (first | (refine kt_end ?_; refine t_end mix (by kernel_rfl) ?_) | refine t_sv rfl (by first | exact rfl | exact ⟨_, rfl, rfl, rfl⟩) (by decide) ?_ | (refine kt_load ?_; (first | refine t_val (v_rloadm hx rfl rfl rfl) (by first | exact rfl | exact ⟨_, rfl, rfl, rfl⟩) rfl rfl (by decide) ?_ | refine t_val (v_rloadm hz2 rfl rfl rfl) (by first | exact rfl | exact ⟨_, rfl, rfl, rfl⟩) rfl rfl (by decide) ?_ | refine t_val (v_loadp rfl rfl rfl rfl) (by first | exact rfl | exact ⟨_, rfl, rfl, rfl⟩) rfl rfl (by decide) ?_)) | (refine kt_index ?_; (refine t_val (v_rindex rfl (by omega) (by simp only [List.length_map]; omega) rfl) (by first | exact rfl | exact ⟨_, rfl, rfl, rfl⟩) rfl rfl (by decide) ?_)) | (refine kt_bin ?_; (refine t_val (v_sub (wi64 (by omega) (by omega))) (by first | exact rfl | exact ⟨_, rfl, rfl, rfl⟩) rfl rfl (by decide) ?_)) | (refine kt_blt ?_; (refine t_val (v_lenrm rfl) (by first | exact rfl | exact ⟨_, rfl, rfl, rfl⟩) rfl rfl (by decide) ?_)) | (refine kt_call ?_; (first | refine t_fn s1 (by first | exact rfl | exact ⟨_, rfl, rfl, rfl⟩) rfl (by decide) ?_ | refine t_fn s2 (by first | exact rfl | exact ⟨_, rfl, rfl, rfl⟩) rfl (by decide) ?_ | refine t_fn s3 (by first | exact rfl | exact ⟨_, rfl, rfl, rfl⟩) rfl (by decide) ?_)))))
  all_goals first
    | exact r_ret Try.func7 _ (res_one rfl rfl) ⟨rfl, rfl⟩
    | (exfalso; simp_all; done)
end Go.Proofs.Ytfpdfcjohminlaa
