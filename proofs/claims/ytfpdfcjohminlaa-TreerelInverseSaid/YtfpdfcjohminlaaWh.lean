/- A law holds for every input; no condition. -/
import Derived.Test.YtfpdfcjohminlaaWg
import Derived.Test.YtfpdfcjohminlaaFe
set_option linter.all false
set_option linter.unusedVariables false
set_option linter.unusedSimpArgs false
namespace Go.Proofs.Ytfpdfcjohminlaa
open Go.Ab
set_option maxHeartbeats 20000000
set_option linter.unusedSimpArgs false
set_option linter.unusedVariables false
set_option linter.unusedSimpArgs false
set_option linter.unusedVariables false
attribute [local irreducible] Run Ops Op1 Does Val Tr PureF Eff1 NF Rel tnum tnext

/-! lists without repetitions -/
def addk (ks : List Int) (k : Int) : List Int := if k ∈ ks then ks else ks ++ [k]
def ksD (ks : List Int) : List (Int × D) := ks.map fun k => (k, Dbool true)
theorem mput_ks : ∀ (ks : List Int) (k : Int), mput (ksD ks) k (Dbool true) = ksD (addk ks k)
  | [], k => rfl
  | b :: r, k => by
    simp only [ksD, List.map_cons, mput]
    have ih := mput_ks r k
    simp only [ksD] at ih
    by_cases e : b = k
    · subst e; rw [if_pos rfl, addk, if_pos (by simp)]; rfl
    · rw [if_neg e, ih]
      unfold addk
      by_cases h : k ∈ r
      · rw [if_pos h, if_pos (by simp [h])]; rfl
      · have hn : k ∉ b :: r := by simp [h, Ne.symm e]
        rw [if_neg h, if_neg hn]; simp
theorem mget_ks : ∀ (ks : List Int) (k : Int), (mget (ksD ks) k).getD (Dbool false) = Dbool (decide (k ∈ ks))
  | [], k => by simp [ksD, mget]
  | b :: r, k => by
    simp only [ksD, List.map_cons, mget]
    have ih := mget_ks r k
    simp only [ksD] at ih
    by_cases e : b = k
    · subst e; rw [if_pos rfl]; simp
    · rw [if_neg e, ih]; simp [Ne.symm e]
theorem addk_mem (ks : List Int) (k x : Int) : x ∈ addk ks k ↔ x ∈ ks ∨ x = k := by
  unfold addk
  split
  · rename_i h; constructor
    · exact fun hx => .inl hx
    · rintro (hx | rfl)
      · exact hx
      · exact h
  · simp
theorem addk_nodup {ks : List Int} (h : ks.Nodup) (k : Int) : (addk ks k).Nodup := by
  unfold addk
  split
  · exact h
  · rename_i hn
    rw [List.nodup_append]
    exact ⟨h, by simp, by intro a ha b hb; simp at hb; subst hb; exact fun e => hn (e ▸ ha)⟩
theorem nodup_le : ∀ (l m : List Int), l.Nodup → (∀ x ∈ l, x ∈ m) → l.length ≤ m.length
  | [], m, _, _ => by simp
  | a :: l, m, h, hs => by
    obtain ⟨h1, h2⟩ := List.nodup_cons.1 h
    have ha := hs a (by simp)
    have := nodup_le l (m.erase a) h2 fun x hx => (List.mem_erase_of_ne (fun e : x = a => h1 (by rw [← e]; exact hx))).2 (hs x (by simp [hx]))
    rw [List.length_erase_of_mem ha] at this
    have hp := List.length_pos_of_mem ha
    simp only [List.length_cons]; omega
theorem nodup_same {l m : List Int} (hl : l.Nodup) (hm : m.Nodup) (h : ∀ x, x ∈ l ↔ x ∈ m) : l.length = m.length :=
  Nat.le_antisymm (nodup_le l m hl fun x hx => (h x).1 hx) (nodup_le m l hm fun x hx => (h x).2 hx)
theorem sel_nodup (n : Nat) (p : Nat → Bool) : (sel n p).Nodup := by
  unfold sel
  show List.Pairwise _ _
  rw [List.pairwise_map]
  exact List.Pairwise.imp (fun hab e => hab (Int.ofNat.inj e)) ((List.nodup_range (n := n)).filter p)
/-- the elements of a selection, one behind the other -/
theorem sel_split (p : Nat → Bool) : ∀ (m j : Nat), ∃ r : List Int, sel (j + m) p = sel j p ++ r ∧ ∀ x ∈ r, (j : Int) ≤ x
  | 0, j => ⟨[], by simp, by simp⟩
  | m + 1, j => by
    obtain ⟨r, h1, h2⟩ := sel_split p m j
    refine ⟨r ++ (if p (j + m) then [((j + m : Nat) : Int)] else []), ?_, ?_⟩
    · rw [show j + (m + 1) = (j + m) + 1 by omega, sel_succ, h1, List.append_assoc]
    · intro x hx
      rcases List.mem_append.1 hx with hx | hx
      · exact h2 x hx
      · split at hx
        · simp at hx; omega
        · cases hx
theorem sel_at_yes {n j : Nat} {p : Nat → Bool} (hj : j < n) (hp : p j = true) : (sel n p)[(sel j p).length]? = some (j : Int) := by
  obtain ⟨r, h1, _⟩ := sel_split p (n - (j + 1)) (j + 1)
  rw [show j + 1 + (n - (j + 1)) = n by omega, sel_yes hp] at h1
  rw [h1, List.append_assoc, List.getElem?_append_right (Nat.le_refl _)]
  simp
theorem sel_at_no {n j : Nat} {p : Nat → Bool} (hj : j < n) (hp : p j = false) {x : Int} (hx : (sel n p)[(sel j p).length]? = some x) : x ≠ j := by
  obtain ⟨r, h1, h2⟩ := sel_split p (n - (j + 1)) (j + 1)
  rw [show j + 1 + (n - (j + 1)) = n by omega, sel_no hp] at h1
  rw [h1, List.getElem?_append_right (Nat.le_refl _)] at hx
  have := h2 x (List.mem_of_getElem? hx)
  omega

/-! what lies below a token -/
theorem mem_under {c : Corpus} {a x : Int} (ha : token c a = true) : x ∈ under c a ↔ token c x = true ∧ (x = a ∨ a ∈ up c x) := by
  rw [under, if_pos ha]
  constructor
  · intro h
    obtain ⟨h0, h1, h2⟩ := sel_mem h
    refine ⟨(token_iff c x).2 ⟨h0, h1⟩, ?_⟩
    rw [show ((x.toNat : Nat) : Int) = x by omega] at h2
    simpa [inB] using h2
  · rintro ⟨h1, h2⟩
    have ht := (token_iff c x).1 h1
    have := mem_sel (n := c.tokens.length) (p := fun k => ((k : Int) == a) || inB (up c k) a) (k := x.toNat) (by omega) (by
      show (((x.toNat : Nat) : Int) == a || inB (up c ((x.toNat : Nat) : Int)) a) = true
      rw [show ((x.toNat : Nat) : Int) = x by omega]
      simpa [inB] using h2)
    rwa [show ((x.toNat : Nat) : Int) = x by omega] at this
theorem under_nodup (c : Corpus) (a : Int) : (under c a).Nodup := by
  unfold under; split
  · exact sel_nodup _ _
  · exact List.nodup_nil
/-- one head up the way -/
theorem way_next {c : Corpus} (h : Wf c) {x j a : Int} (hx : token c x = true) (hj : j ∈ way c x) (hh : head c j = a) (ha : a ≠ -1) : a ∈ up c x := by
  obtain ⟨k, k1, k2, k3⟩ := way_at h hx hj
  rw [way_step h (way_token h hx j hj), hh, if_neg ha] at k3
  have e : (way c x)[k + 1]? = some a := by
    have := congrArg (fun l => l[1]?) k3
    simp only [List.getElem?_drop, List.getElem?_cons_succ] at this
    rw [this]; rfl
  rw [way, List.getElem?_cons_succ] at e
  exact List.mem_of_getElem? e
theorem way_prev {c : Corpus} (h : Wf c) {x a : Int} (hx : token c x = true) (ha : a ∈ up c x) : ∃ j, j ∈ way c x ∧ head c j = a := by
  obtain ⟨k, hk⟩ := List.getElem?_of_mem ha
  have hl := (List.getElem?_eq_some_iff.1 hk).1
  obtain ⟨j, hj⟩ : ∃ j, (way c x)[k]? = some j := ⟨_, List.getElem?_eq_getElem (by simp [way]; omega)⟩
  have hm := List.mem_of_getElem? hj
  refine ⟨j, hm, ?_⟩
  have hd := way_drop h k x hx j hj
  rw [way_step h (way_token h hx j hm)] at hd
  have := congrArg (fun l => l[1]?) hd
  simp only [List.getElem?_drop, List.getElem?_cons_succ] at this
  rw [way, List.getElem?_cons_succ, hk] at this
  split at this
  · simp at this
  · simp [way] at this; exact this.symm
theorem under_all {c : Corpus} (h : Wf c) {a : Int} (ha : token c a = true) (x : Int) : x ∈ under c a ↔ x = a ∨ ∃ j : Nat, j < c.tokens.length ∧ head c j = a ∧ x ∈ under c j := by
  have hat := (token_iff c a).1 ha
  rw [mem_under ha]
  constructor
  · rintro ⟨h1, rfl | h2⟩
    · exact .inl rfl
    · obtain ⟨j, hj, hh⟩ := way_prev h h1 h2
      have hjt := way_token h h1 j hj
      have hjr := (token_iff c j).1 hjt
      refine .inr ⟨j.toNat, by omega, by rw [show ((j.toNat : Nat) : Int) = j by omega]; exact hh, ?_⟩
      rw [show ((j.toNat : Nat) : Int) = j by omega, mem_under hjt]
      refine ⟨h1, ?_⟩
      rw [way] at hj
      rcases List.mem_cons.1 hj with e | e
      · exact .inl e.symm
      · exact .inr e
  · rintro (rfl | ⟨j, hj, hh, hx⟩)
    · exact ⟨ha, .inl rfl⟩
    · have hjt : token c (j : Int) = true := (token_iff c _).2 (by omega)
      rw [mem_under hjt] at hx
      refine ⟨hx.1, .inr (way_next h hx.1 (j := j) ?_ hh (by omega))⟩
      rw [way]
      rcases hx.2 with rfl | h2
      · simp
      · simp [h2]
theorem up_cases {c : Corpus} (h : Wf c) {j : Int} (hj : token c j = true) : (head c j = -1 ∧ up c j = []) ∨ (head c j ≠ -1 ∧ ∃ r, up c j = head c j :: r) := by
  rw [up_step h hj]
  by_cases e : head c j = -1
  · exact .inl ⟨e, if_pos e⟩
  · exact .inr ⟨e, _, if_neg e⟩
theorem keyM : Try.prog.underlying 39 = some (.map 3 4) := by kernel_rfl
theorem keyI : Try.prog.underlying 3 = some (.int .i64) := by kernel_rfl
theorem zeroB : ∀ w, (zeroValue 4).run Try.prog w = .ok (.bool false) w := zero_of (by kernel_rfl)
def kids (c : Corpus) (a : Int) (j : Nat) : Nat := (sel j fun k => head c k == a).length
theorem kids_yes {c : Corpus} {a : Int} {j : Nat} (h : head c j = a) : kids c a (j + 1) = kids c a j + 1 := by
  rw [kids, sel_yes (by simpa using h), List.length_append]; rfl
theorem kids_no {c : Corpus} {a : Int} {j : Nat} (h : head c j ≠ a) : kids c a (j + 1) = kids c a j := by
  rw [kids, sel_no (by simpa using h)]; rfl
/-- the keys that are there when j tokens are done -/
def Keys (c : Corpus) (a : Int) (j : Nat) (ks : List Int) : Prop := ks.Nodup ∧ ∀ x, x ∈ ks ↔ x = a ∨ ∃ i : Nat, i < j ∧ head c i = a ∧ x ∈ under c i
theorem Keys.no {c : Corpus} {a : Int} {j : Nat} {ks : List Int} (h : Keys c a j ks) (hh : head c j ≠ a) : Keys c a (j + 1) ks := by
  refine ⟨h.1, fun x => (h.2 x).trans ?_⟩
  constructor
  · rintro (e | ⟨i, h1, h2, h3⟩)
    · exact .inl e
    · exact .inr ⟨i, by omega, h2, h3⟩
  · rintro (e | ⟨i, h1, h2, h3⟩)
    · exact .inl e
    · refine .inr ⟨i, ?_, h2, h3⟩
      rcases Nat.lt_or_ge i j with h4 | h4
      · exact h4
      · obtain rfl : i = j := by omega
        exact absurd h2 hh
theorem Keys.yes {c : Corpus} {a : Int} {j : Nat} {ks ks' : List Int} (h : Keys c a j ks) (hh : head c j = a) (h1 : ks'.Nodup) (h2 : ∀ x, x ∈ ks' ↔ x ∈ ks ∨ x ∈ under c j) : Keys c a (j + 1) ks' := by
  refine ⟨h1, fun x => ?_⟩
  rw [h2, h.2]
  constructor
  · rintro ((e | ⟨i, h1, h2, h3⟩) | e)
    · exact .inl e
    · exact .inr ⟨i, by omega, h2, h3⟩
    · exact .inr ⟨j, by omega, hh, e⟩
  · rintro (e | ⟨i, h1, h2, h3⟩)
    · exact .inl (.inl e)
    · rcases Nat.lt_or_ge i j with h4 | h4
      · exact .inl (.inr ⟨i, h4, h2, h3⟩)
      · obtain rfl : i = j := by omega
        exact .inr h3
theorem inverse_law (l : List Int) (i : Int) (hl : l.length ≤ 9223372036854775807) : PureF Try.prog 4 [.d (ints l), I .i64 i] (B true) := by
  refine pure_of fun H => ?_
  refine spec_of Try.func4 (by kernel_rfl) rfl (by simp) ?_
  dsimp only [Try.f4]
  have hl2 : (l.take 120).length ≤ 120 := by simp; omega
  repeat' (first | (refine k_op1 ?_; (first | refine o_sv rfl (by decide) ?_ | (refine k_load ?_; (first | refine o_val (v_load rfl rfl rfl rfl) rfl rfl (by decide) ?_ | refine o_val (v_loadp rfl rfl rfl rfl) rfl rfl (by decide) ?_)) | (refine k_field ?_; (refine o_val (v_field rfl rfl) rfl rfl (by decide) ?_)) | (refine k_blt ?_; (refine o_val (v_lenm rfl) rfl rfl (by decide) ?_)) | (refine k_call ?_; (first | (refine o_rel1 (corpus_r _ 0 hl2 (by decide)) rfl rfl (by decide) ?_; rintro ⟨c, k1⟩ ⟨⟨s, hs, hc⟩, -⟩; simp only at hc ⊢; have hw := hc.wf (by omega); have ht := hw.tok; have ht0 := hw.tok0; have hnn := hc.nnodes; have hul := up_len c; have hdl := down_len c; have hnl := under_len c) | (refine o_nf (d := 24) (mod_nf _ _ (by omega)) rfl (by decide) (fun p hp => ?_); obtain ⟨a, ha0, ha1, rfl⟩ := hp) | refine o_fn (down_s c _ (by omega)) rfl (by decide) ?_)) | (refine k_store ?_; (refine o_store0 rfl rfl rfl rfl rfl rfl ?_)) | (refine k_alloc ?_; (refine o_does (d_alloc rfl rfl (by decide)) ?_)) | (refine o_new (d := 18) rfl hl (by decide) rfl ?_; refine o_ren 18 500 rfl rfl ?_) | refine o_mkmap (by decide) rfl ?_ | refine o_mins (q := []) (g := fun x : Int => Value.int .i64 x) keyM keyI (keyInt .i64) rfl rfl rfl rfl rfl ?_)) | (refine k_ops ?_; (first | refine o_go (by first | exact .inl rfl | exact .inr ⟨_, _, _, rfl, rfl, rfl⟩) ?_ | refine o_nil ?_)) | (refine k_run ?_; (first | refine r_seq ?_ | refine r_region ?_ | refine r_block ?_)))
  have ha : token c a = true := (token_iff c a).2 ⟨ha0, ha1⟩
  obtain ⟨dn, hdn⟩ : ∃ dn, down c a = dn := ⟨_, rfl⟩
  have hdn2 : dn = sel c.tokens.length (fun k => head c k == a) := by rw [← hdn, down, if_pos ha]
  have hdla := hdl a
  simp only [hdn] at hdla ⊢
  refine r_loop ?_
  refine r_less (r_inv (fun q : Nat × List Int => ⟨107, [(1, I .i64 a), (5, .ptr (0, 5) 0), (6, .d (ints dn)), (7, .ref (0, 28)), (8, I .i64 ((kids c a q.1 : Nat) : Int)), (33, I .i64 c.tokens.length), (34, I .i64 (q.1 : Nat))], [(28, .mp ((ksD q.2).map fun p => (Value.int .i64 p.1, p.2))), (5, .box (c.cs.map .d))], H⟩)
    (fun q => q.1 ≤ c.tokens.length ∧ Keys c a q.1 q.2) (fun q => c.tokens.length - q.1) ?_ ⟨0, [a]⟩ ⟨Nat.zero_le _, by simp, fun x => by simp⟩) rfl rfl
  intro ⟨j, ks⟩ ⟨h1, h2⟩ ih
  simp only at h1 h2 ih ⊢
  have hkd : kids c a j ≤ j := sel_len _ _
  by_cases hj : j < c.tokens.length
  · have hjt : token c (j : Int) = true := (token_iff c _).2 (by omega)
    have hulj := hul j
    by_cases hh : head c j = a
    · obtain ⟨r, hr⟩ : ∃ r, up c j = a :: r := by
        rcases up_cases hw hjt with ⟨e, _⟩ | ⟨_, r, e⟩
        · omega
        · exact ⟨r, by rw [e, hh]⟩
      have sp : PureF Try.prog 15 [c.d, I .i64 (j : Int)] (.d (ints (a :: r))) := by rw [← hr]; exact up_s c j (by omega)
      have hat : dn[kids c a j]? = some (j : Int) := by rw [hdn2]; exact sel_at_yes hj (by simpa using hh)
      have hatl := (List.getElem?_eq_some_iff.1 hat).1
      have hk1 := kids_yes hh
      obtain ⟨us, hus⟩ : ∃ us, under c j = us := ⟨_, rfl⟩
      have hnlj := hnl j
      rw [hus] at hnlj
      have su : PureF Try.prog 19 [c.d, I .i64 (j : Int)] (.d (ints us)) := by rw [← hus]; exact under_s c j (by omega)
      have hl1 : (a :: r).length = r.length + 1 := rfl
      rw [hr] at hulj
      repeat' (first | (refine k_op1 ?_; (first | refine o_sv rfl (by decide) ?_ | (refine k_load ?_; (first | refine o_val (v_loada rfl rfl rfl) rfl rfl (by decide) ?_ | refine o_val (v_loade rfl rfl rfl) rfl rfl (by decide) ?_)) | (refine k_index ?_; (first | refine o_val (v_index rfl (by omega) (idx (l := a :: r) (k := 0) rfl) rfl) rfl rfl (by decide) ?_ | refine o_val (v_index rfl (by omega) (idx hat) rfl) rfl rfl (by decide) ?_)) | (refine k_bin ?_; (first | refine o_val (v_add (wi64 (by omega) (by omega))) rfl rfl (by decide) ?_ | refine o_val (v_bneq rfl) rfl rfl (by decide) ?_)) | (refine k_blt ?_; (refine o_val (v_lenm rfl) rfl rfl (by decide) ?_)) | (refine k_call ?_; (first | refine o_fn sp rfl (by decide) ?_ | refine o_fn su rfl (by decide) ?_)))) | (refine k_ops ?_; (first | refine o_go (by first | exact .inl rfl | exact .inr ⟨_, _, _, rfl, rfl, rfl⟩) ?_ | refine o_nil ?_ | refine o_no rfl rfl (by decide) ?_ | refine o_casep rfl rfl (fun _ => ?_) (fun _ => ?_))) | (refine k_run ?_; (first | refine r_seq ?_ | refine r_region ?_ | refine r_false rfl ?_ | refine r_skip ?_ | refine r_block ?_ | refine r_inBlock ?_ | refine r_if rfl (fun _ => ?_) (fun _ => ?_) | refine r_ifn rfl (fun _ => ?_) (fun _ => ?_) | refine r_exit rfl ?_)))
      all_goals try (rename_i hq; exfalso; simp at hq; done)
      all_goals try (exfalso; omega)
      refine r_loop ?_
      refine r_less (r_inv (fun q : Nat × List Int => ⟨107, [(1, I .i64 a), (5, .ptr (0, 5) 0), (6, .d (ints dn)), (7, .ref (0, 28)), (8, I .i64 ((kids c a (j + 1) : Nat) : Int)), (33, I .i64 c.tokens.length), (34, I .i64 (j : Nat)), (69, .d (ints us)), (70, I .i64 us.length), (71, I .i64 (q.1 : Nat))], [(28, .mp ((ksD q.2).map fun p => (Value.int .i64 p.1, p.2))), (5, .box (c.cs.map .d))], H⟩)
        (fun q => q.1 ≤ us.length ∧ q.2.Nodup ∧ ∀ x, x ∈ q.2 ↔ x ∈ ks ∨ x ∈ us.take q.1) (fun q => us.length - q.1) ?_ ⟨0, ks⟩ ⟨Nat.zero_le _, h2.1, fun x => by simp⟩) (by rw [hk1]; rfl) rfl
      intro ⟨m, kt⟩ ⟨g1, g2, g3⟩ ih2
      simp only at g1 g2 g3 ih2 ⊢
      by_cases hm : m < us.length
      · obtain ⟨x, hx⟩ : ∃ x, us[m]? = some x := ⟨_, List.getElem?_eq_getElem hm⟩
        have hmp := mput_ks kt x
        repeat' (first | (refine k_op1 ?_; (first | refine o_sv rfl (by decide) ?_ | (refine k_load ?_; (refine o_val (v_loade rfl rfl rfl) rfl rfl (by decide) ?_)) | (refine k_index ?_; (refine o_val (v_index rfl (by omega) (idx hx) rfl) rfl rfl (by decide) ?_)) | (refine k_bin ?_; (refine o_val (v_add (wi64 (by omega) (by omega))) rfl rfl (by decide) ?_)) | refine o_mput (q := ksD kt) (a := x) (v := Dbool true) (g := fun x : Int => Value.int .i64 x) keyM keyI (keyInt .i64) rfl rfl rfl rfl rfl ?_)) | (refine k_ops ?_; (first | refine o_go (by first | exact .inl rfl | exact .inr ⟨_, _, _, rfl, rfl, rfl⟩) ?_ | refine o_nil ?_)) | (refine k_run ?_; (first | refine r_seq ?_ | refine r_region ?_ | refine r_skip ?_ | refine r_block ?_ | refine r_inBlock ?_ | refine r_if rfl (fun _ => ?_) (fun _ => ?_) | refine r_exit rfl ?_)))
        all_goals try (exfalso; omega)
        rw [hmp]
        refine r_less (ih2 ⟨m + 1, addk kt x⟩ ⟨by simp only; omega, addk_nodup g2 x, fun y => ?_⟩ (by simp only; omega)) rfl rfl
        simp only
        rw [addk_mem, g3, List.take_add_one, hx]
        simp [or_assoc]
      · obtain rfl : m = us.length := by omega
        rw [List.take_length] at g3
        repeat' (first | (refine k_op1 ?_; (first | refine o_sv rfl (by decide) ?_ | (refine k_bin ?_; (refine o_val (v_add (wi64 (by omega) (by omega))) rfl rfl (by decide) ?_)))) | (refine k_ops ?_; (first | refine o_go (by first | exact .inl rfl | exact .inr ⟨_, _, _, rfl, rfl, rfl⟩) ?_ | refine o_nil ?_)) | (refine k_run ?_; (first | refine r_seq ?_ | refine r_region ?_ | refine r_skip ?_ | refine r_block ?_ | refine r_inBlock ?_ | refine r_if rfl (fun _ => ?_) (fun _ => ?_) | refine r_exit rfl ?_)))
        all_goals try (exfalso; omega)
        all_goals exact r_less (ih ⟨j + 1, kt⟩ ⟨by simp only; omega, h2.yes hh g2 (by rw [hus]; exact g3)⟩ (by simp only; omega)) rfl rfl
    · have hk1 := kids_no hh
      have hnot : ∀ y, dn[kids c a j]? = some y → y ≠ (j : Int) := fun y hy => by rw [hdn2] at hy; exact sel_at_no hj (by simpa using hh) hy
      have fin := ih ⟨j + 1, ks⟩ ⟨by simp only; omega, h2.no hh⟩ (by simp only; omega)
      simp only [hk1] at fin
      rcases up_cases hw hjt with ⟨e, hr⟩ | ⟨e, r, hr⟩
      · have sp : PureF Try.prog 15 [c.d, I .i64 (j : Int)] (.d (ints [])) := by rw [← hr]; exact up_s c j (by omega)
        by_cases hat : kids c a j < dn.length
        · obtain ⟨y, hy⟩ : ∃ y, dn[kids c a j]? = some y := ⟨_, List.getElem?_eq_getElem hat⟩
          have hyn := hnot y hy
          repeat' (first | (refine k_op1 ?_; (first | refine o_sv rfl (by decide) ?_ | (refine k_load ?_; (first | refine o_val (v_loada rfl rfl rfl) rfl rfl (by decide) ?_ | refine o_val (v_loade rfl rfl rfl) rfl rfl (by decide) ?_)) | (refine k_index ?_; (refine o_val (v_index rfl (by omega) (idx hy) rfl) rfl rfl (by decide) ?_)) | (refine k_bin ?_; (first | refine o_val (v_add (wi64 (by omega) (by omega))) rfl rfl (by decide) ?_ | refine o_val (v_bneq rfl) rfl rfl (by decide) ?_)) | (refine k_blt ?_; (refine o_val (v_lenm rfl) rfl rfl (by decide) ?_)) | (refine k_call ?_; (refine o_fn sp rfl (by decide) ?_)))) | (refine k_ops ?_; (first | refine o_go (by first | exact .inl rfl | exact .inr ⟨_, _, _, rfl, rfl, rfl⟩) ?_ | refine o_nil ?_ | refine o_no rfl rfl (by decide) ?_ | refine o_casep rfl rfl (fun _ => ?_) (fun _ => ?_))) | (refine k_run ?_; (first | refine r_seq ?_ | refine r_region ?_ | refine r_false rfl ?_ | refine r_skip ?_ | refine r_block ?_ | refine r_inBlock ?_ | refine r_if rfl (fun _ => ?_) (fun _ => ?_) | refine r_ifn rfl (fun _ => ?_) (fun _ => ?_) | refine r_exit rfl ?_)))
          all_goals try (rename_i hq; exfalso; simp [hyn] at hq; done)
          all_goals try (exfalso; omega)
          all_goals exact r_less fin rfl rfl
        · repeat' (first | (refine k_op1 ?_; (first | refine o_sv rfl (by decide) ?_ | (refine k_load ?_; (refine o_val (v_loada rfl rfl rfl) rfl rfl (by decide) ?_)) | (refine k_bin ?_; (first | refine o_val (v_add (wi64 (by omega) (by omega))) rfl rfl (by decide) ?_ | refine o_val (v_bneq rfl) rfl rfl (by decide) ?_)) | (refine k_blt ?_; (refine o_val (v_lenm rfl) rfl rfl (by decide) ?_)) | (refine k_call ?_; (refine o_fn sp rfl (by decide) ?_)))) | (refine k_ops ?_; (first | refine o_go (by first | exact .inl rfl | exact .inr ⟨_, _, _, rfl, rfl, rfl⟩) ?_ | refine o_nil ?_ | refine o_no rfl rfl (by decide) ?_ | refine o_casep rfl rfl (fun _ => ?_) (fun _ => ?_))) | (refine k_run ?_; (first | refine r_seq ?_ | refine r_region ?_ | refine r_false rfl ?_ | refine r_skip ?_ | refine r_block ?_ | refine r_inBlock ?_ | refine r_if rfl (fun _ => ?_) (fun _ => ?_) | refine r_exit rfl ?_)))
          all_goals try (rename_i hq; exfalso; simp [hh] at hq; done)
          all_goals try (exfalso; omega)
          all_goals exact r_less fin rfl rfl
      · obtain ⟨hv, hhv⟩ : ∃ hv, head c j = hv := ⟨_, rfl⟩
        rw [hhv] at hr hh
        have sp : PureF Try.prog 15 [c.d, I .i64 (j : Int)] (.d (ints (hv :: r))) := by rw [← hr]; exact up_s c j (by omega)
        rw [hr] at hulj
        have hl1 : (hv :: r).length = r.length + 1 := rfl
        by_cases hat : kids c a j < dn.length
        · obtain ⟨y, hy⟩ : ∃ y, dn[kids c a j]? = some y := ⟨_, List.getElem?_eq_getElem hat⟩
          have hyn := hnot y hy
          repeat' (first | (refine k_op1 ?_; (first | refine o_sv rfl (by decide) ?_ | (refine k_load ?_; (first | refine o_val (v_loada rfl rfl rfl) rfl rfl (by decide) ?_ | refine o_val (v_loade rfl rfl rfl) rfl rfl (by decide) ?_)) | (refine k_index ?_; (first | refine o_val (v_index rfl (by omega) (idx (l := hv :: r) (k := 0) rfl) rfl) rfl rfl (by decide) ?_ | refine o_val (v_index rfl (by omega) (idx hy) rfl) rfl rfl (by decide) ?_)) | (refine k_bin ?_; (first | refine o_val (v_add (wi64 (by omega) (by omega))) rfl rfl (by decide) ?_ | refine o_val (v_bneq rfl) rfl rfl (by decide) ?_)) | (refine k_blt ?_; (refine o_val (v_lenm rfl) rfl rfl (by decide) ?_)) | (refine k_call ?_; (refine o_fn sp rfl (by decide) ?_)))) | (refine k_ops ?_; (first | refine o_go (by first | exact .inl rfl | exact .inr ⟨_, _, _, rfl, rfl, rfl⟩) ?_ | refine o_nil ?_ | refine o_no rfl rfl (by decide) ?_ | refine o_casep rfl rfl (fun _ => ?_) (fun _ => ?_))) | (refine k_run ?_; (first | refine r_seq ?_ | refine r_region ?_ | refine r_false rfl ?_ | refine r_skip ?_ | refine r_block ?_ | refine r_inBlock ?_ | refine r_if rfl (fun _ => ?_) (fun _ => ?_) | refine r_ifn rfl (fun _ => ?_) (fun _ => ?_) | refine r_exit rfl ?_)))
          all_goals try (rename_i hq; exfalso; simp [hyn, hh] at hq; done)
          all_goals try (exfalso; omega)
          all_goals exact r_less fin rfl rfl
        · repeat' (first | (refine k_op1 ?_; (first | refine o_sv rfl (by decide) ?_ | (refine k_load ?_; (first | refine o_val (v_loada rfl rfl rfl) rfl rfl (by decide) ?_ | refine o_val (v_loade rfl rfl rfl) rfl rfl (by decide) ?_)) | (refine k_index ?_; (refine o_val (v_index rfl (by omega) (idx (l := hv :: r) (k := 0) rfl) rfl) rfl rfl (by decide) ?_)) | (refine k_bin ?_; (first | refine o_val (v_add (wi64 (by omega) (by omega))) rfl rfl (by decide) ?_ | refine o_val (v_bneq rfl) rfl rfl (by decide) ?_)) | (refine k_blt ?_; (refine o_val (v_lenm rfl) rfl rfl (by decide) ?_)) | (refine k_call ?_; (refine o_fn sp rfl (by decide) ?_)))) | (refine k_ops ?_; (first | refine o_go (by first | exact .inl rfl | exact .inr ⟨_, _, _, rfl, rfl, rfl⟩) ?_ | refine o_nil ?_ | refine o_no rfl rfl (by decide) ?_ | refine o_casep rfl rfl (fun _ => ?_) (fun _ => ?_))) | (refine k_run ?_; (first | refine r_seq ?_ | refine r_region ?_ | refine r_false rfl ?_ | refine r_skip ?_ | refine r_block ?_ | refine r_inBlock ?_ | refine r_if rfl (fun _ => ?_) (fun _ => ?_) | refine r_ifn rfl (fun _ => ?_) (fun _ => ?_) | refine r_exit rfl ?_)))
          all_goals try (rename_i hq; exfalso; simp [hh] at hq; done)
          all_goals try (exfalso; omega)
          all_goals exact r_less fin rfl rfl
  · obtain rfl : j = c.tokens.length := by omega
    obtain ⟨al, hal⟩ : ∃ al, under c a = al := ⟨_, rfl⟩
    have hnla := hnl a
    rw [hal] at hnla
    have su : PureF Try.prog 19 [c.d, I .i64 a] (.d (ints al)) := by rw [← hal]; exact under_s c a (by omega)
    have hin : ∀ x, x ∈ al ↔ x ∈ ks := fun x => by rw [h2.2, ← hal, under_all hw ha]
    have hlen : al.length = ks.length := nodup_same (by rw [← hal]; exact under_nodup c a) h2.1 hin
    have hkl : kids c a c.tokens.length = dn.length := by rw [hdn2]; rfl
    rw [hkl]
    repeat' (first | (refine k_op1 ?_; (first | refine o_sv rfl (by decide) ?_ | (refine k_load ?_; (refine o_val (v_loada rfl rfl rfl) rfl rfl (by decide) ?_)) | (refine k_blt ?_; (refine o_val (v_lenm rfl) rfl rfl (by decide) ?_)) | (refine k_call ?_; (refine o_fn su rfl (by decide) ?_)))) | (refine k_ops ?_; (first | refine o_go (by first | exact .inl rfl | exact .inr ⟨_, _, _, rfl, rfl, rfl⟩) ?_ | refine o_nil ?_)) | (refine k_run ?_; (first | refine r_seq ?_ | refine r_region ?_ | refine r_skip ?_ | refine r_block ?_ | refine r_if rfl (fun _ => ?_) (fun _ => ?_) | refine r_exit rfl ?_)))
    all_goals try (exfalso; omega)
    refine r_loop ?_
    refine r_less (r_inv (fun q : Nat => ⟨107, [(5, .ptr (0, 5) 0), (6, .d (ints dn)), (7, .ref (0, 28)), (8, I .i64 dn.length), (14, .d (ints al)), (82, .d (ints al)), (83, I .i64 al.length), (84, I .i64 (q : Nat))], [(28, .mp ((ksD ks).map fun p => (Value.int .i64 p.1, p.2))), (5, .box (c.cs.map .d))], H⟩)
      (fun q => q ≤ al.length) (fun q => al.length - q) ?_ 0 (Nat.zero_le _)) rfl rfl
    intro m g1 ih2
    by_cases hm : m < al.length
    · obtain ⟨x, hx⟩ : ∃ x, al[m]? = some x := ⟨_, List.getElem?_eq_getElem hm⟩
      have hxk : (mget (ksD ks) x).getD (Dbool false) = Dbool true := by rw [mget_ks, decide_eq_true ((hin x).1 (List.mem_of_getElem? hx))]
      repeat' (first | (refine k_op1 ?_; (first | refine o_sv rfl (by decide) ?_ | (refine k_load ?_; (refine o_val (v_loade rfl rfl rfl) rfl rfl (by decide) ?_)) | (refine k_index ?_; (refine o_val (v_index rfl (by omega) (idx hx) rfl) rfl rfl (by decide) ?_)) | (refine k_bin ?_; (refine o_val (v_add (wi64 (by omega) (by omega))) rfl rfl (by decide) ?_)) | (refine k_blt ?_; (refine o_val (v_lenm rfl) rfl rfl (by decide) ?_)) | refine o_does (d_mget (q := ksD ks) (a := x) (g := fun x : Int => Value.int .i64 x) keyM keyI (keyInt .i64) zeroB rfl rfl rfl rfl hxk (by decide)) ?_)) | (refine k_ops ?_; (first | refine o_go (by first | exact .inl rfl | exact .inr ⟨_, _, _, rfl, rfl, rfl⟩) ?_ | refine o_nil ?_ | refine o_no rfl rfl (by decide) ?_ | refine o_casep rfl rfl (fun _ => ?_) (fun _ => ?_))) | (refine k_run ?_; (first | refine r_seq ?_ | refine r_region ?_ | refine r_false rfl ?_ | refine r_skip ?_ | refine r_block ?_ | refine r_inBlock ?_ | refine r_if rfl (fun _ => ?_) (fun _ => ?_) | refine r_exit rfl ?_)))
      all_goals try (exfalso; omega)
      all_goals exact r_less (ih2 (m + 1) (by omega) (by omega)) rfl rfl
    · have hkk : ((ksD ks).map fun p => (Value.int .i64 p.1, p.2)).length = al.length := by rw [List.length_map, ksD, List.length_map, hlen]
      repeat' (first | (refine k_op1 ?_; (first | refine o_sv rfl (by decide) ?_ | (refine k_blt ?_; (refine o_val (v_lenm rfl) rfl rfl (by decide) ?_)) | (refine k_call ?_; (refine o_fn known_s rfl (by decide) ?_)) | refine o_does (d_mlen (es := (ksD ks).map fun p => (Value.int .i64 p.1, p.2)) keyM rfl rfl (by decide)) ?_)) | (refine k_ops ?_; (first | refine o_go (by first | exact .inl rfl | exact .inr ⟨_, _, _, rfl, rfl, rfl⟩) ?_ | refine o_nil ?_ | refine o_no rfl rfl (by decide) ?_ | refine o_casep rfl rfl (fun _ => ?_) (fun _ => ?_))) | (refine k_run ?_; (first | refine r_seq ?_ | refine r_region ?_ | refine r_skip ?_ | refine r_block ?_ | refine r_if rfl (fun _ => ?_) (fun _ => ?_) | refine r_exit rfl ?_)))
      all_goals first
        | exact r_ret Try.func4 _ (res_one rfl rfl) ⟨rfl, rfl⟩
        | (exfalso; omega)
        | (exfalso; simp_all; done)
end Go.Proofs.Ytfpdfcjohminlaa
