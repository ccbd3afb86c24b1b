/- What the encoders write, and the first laws, for every input. -/
import Derived.Test.YtlgdilkmcfpjjaaWg
import Derived.Test.YtlgdilkmcfpjjaaWh
import Derived.Test.YtlgdilkmcfpjjaaWf
import Derived.Test.YtlgdilkmcfpjjaaFe
set_option linter.all false
set_option linter.unusedVariables false
set_option linter.unusedSimpArgs false
namespace Go.Proofs.Ytlgdilkmcfpjjaa
open Go.Ab Go.Srt
set_option maxHeartbeats 20000000
set_option linter.unusedVariables false
set_option linter.unusedSimpArgs false
attribute [local irreducible] Run Ops Op1 Does Val Tr PureF Eff1 NF Rel EffV

/-- the bits of some symbols -/
def encB (l codes : List Int) : List Int → List Bool → Option (List Bool)
  | [], acc => some acc
  | s :: r, acc => if s < 0 ∨ (l.length : Int) ≤ s ∨ l.getD s.toNat 0 = 0 then none else encB l codes r (acc ++ lowB (codes.getD s.toNat 0) (l.getD s.toNat 0).toNat)
def encR (l symbols : List Int) : List Int × Int × Int :=
  if validH l = false then ([], 0, 1) else if 4096 < symbols.length then ([], 0, 2) else match encB l (codesH l) symbols [] with
    | none => ([], 0, 8)
    | some B => (pbs [] 0 B, (B.length : Nat), 0)
theorem getD_some {l : List Int} {i : Nat} {x : Int} (h : l[i]? = some x) : l.getD i 0 = x := by simp [List.getD, h]
theorem encode_s (l symbols : List Int) (hl : l.length ≤ 9223372036854775807) (hs : symbols.length ≤ 9223372036854775807) :
    PureF Try.prog 17 [.d (ints l), .d (ints symbols)] (.tup [.d (bytesL (encR l symbols).1), I .i64 (encR l symbols).2.1, I .i64 (encR l symbols).2.2]) := by
  refine pure_of fun H => ?_
  refine spec_of Try.func17 (by kernel_rfl) rfl (by simp) ?_
  dsimp only [Try.f17]
  have hc := valid_s l hl
  cases hvl : validH l with
  | false =>
    rw [hvl] at hc
    repeat' (first | (refine k_op1 ?_; (first | refine o_sv rfl (by decide) ?_ | (refine k_call ?_; (refine o_fn hc rfl (by decide) ?_)))) | (refine k_ops ?_; (first | refine o_go (by first | exact .inl rfl | exact .inr ⟨_, _, _, rfl, rfl, rfl⟩) ?_ | refine o_nil ?_)) | (refine k_run ?_; (first | refine r_seq ?_ | refine r_region ?_ | refine r_true rfl ?_ | refine r_block ?_)))
    refine r_nil 4 rfl ?_
    refine r_ret Try.func17 _ (res_three rfl rfl rfl rfl) ⟨?_, rfl⟩
    rw [encR, if_pos hvl]; rfl
  | true =>
    rw [hvl] at hc
    obtain ⟨hl1, hv, _⟩ := validH_ok hvl
    by_cases h4 : 4096 < symbols.length
    · repeat' (first | (refine k_op1 ?_; (first | refine o_sv rfl (by decide) ?_ | (refine k_blt ?_; (refine o_val (v_lenm rfl) rfl rfl (by decide) ?_)) | (refine k_call ?_; (refine o_fn hc rfl (by decide) ?_)))) | (refine k_ops ?_; (first | refine o_go (by first | exact .inl rfl | exact .inr ⟨_, _, _, rfl, rfl, rfl⟩) ?_ | refine o_nil ?_)) | (refine k_run ?_; (first | refine r_seq ?_ | refine r_region ?_ | refine r_false rfl ?_ | refine r_skip ?_ | refine r_block ?_ | refine r_inBlock ?_ | refine r_if rfl (fun _ => ?_) (fun _ => ?_))))
      all_goals try (exfalso; omega)
      refine r_nil 4 rfl ?_
      refine r_ret Try.func17 _ (res_three rfl rfl rfl rfl) ⟨?_, rfl⟩
      rw [encR, if_neg (by rw [hvl]; simp), if_pos h4]; rfl
    have hcd := codesOf_s l hl1 hv
    have hcl : (codesH l).length = l.length := by rw [codesH, cl_len, List.length_replicate]
    repeat' (first | (refine k_op1 ?_; (first | refine o_sv rfl (by decide) ?_ | (refine k_blt ?_; (refine o_val (v_lenm rfl) rfl rfl (by decide) ?_)) | (refine k_call ?_; (first | refine o_fn hc rfl (by decide) ?_ | refine o_fn hcd rfl (by decide) ?_ | (refine o_calln rfl (new_writer _) (by decide) rfl (fun r H' h => ⟨_, h.1, h.2, rfl, rfl, ?_⟩); refine o_ren 22 500 rfl rfl ?_; refine o_cell_row 500 0 501 5 1 rfl rfl rfl rfl ?_))) | refine o_mkfn rfl rfl (by decide) ?_)) | (refine k_ops ?_; (first | refine o_go (by first | exact .inl rfl | exact .inr ⟨_, _, _, rfl, rfl, rfl⟩) ?_ | refine o_nil ?_)) | (refine k_run ?_; (first | refine r_seq ?_ | refine r_region ?_ | refine r_false rfl ?_ | refine r_skip ?_ | refine r_block ?_ | refine r_inBlock ?_ | refine r_if rfl (fun _ => ?_) (fun _ => ?_))))
    all_goals try (exfalso; omega)
    refine r_loop ?_
    refine r_less (r_inv (fun q : Nat × List Bool => ⟨61, [(0, .d (ints l)), (1, .d (ints symbols)), (7, .d (u64s (codesH l))), (8, .ptr (0, 500) 0), (9, .fn (.func 30) [.ptr (0, 500) 0] []), (25, .d (ints symbols)), (26, I .i64 symbols.length), (27, I .i64 (q.1 : Nat))], [(500, wbox q.2.length), (501, wrow (pbs [] 0 q.2))], H⟩)
      (fun q => q.1 ≤ symbols.length ∧ q.2.length ≤ 15 * q.1 ∧ encB l (codesH l) (symbols.drop q.1) q.2 = encB l (codesH l) symbols []) (fun q => symbols.length - q.1) ?_ (0, []) ⟨by simp, by simp, rfl⟩) rfl rfl
    intro ⟨k, B⟩ ⟨h1, h2, h3⟩ ih
    simp only at h1 h2 h3 ih ⊢
    have hBl := pbs_len B [] 0 rfl
    rw [Nat.zero_add] at hBl
    by_cases hlt : k < symbols.length
    · obtain ⟨s, hsx⟩ : ∃ s, symbols[k]? = some s := ⟨_, List.getElem?_eq_getElem hlt⟩
      rw [drop_cons hsx, encB] at h3
      have hbad : ∀ (hb : s < 0 ∨ (l.length : Int) ≤ s ∨ l.getD s.toNat 0 = 0), encR l symbols = ([], 0, 8) := fun hb => by
        rw [if_pos hb] at h3
        rw [encR, if_neg (by rw [hvl]; simp), if_neg h4, ← h3]
      by_cases hs1 : s < 0
      · repeat' (first | (refine k_op1 ?_; (first | refine o_sv rfl (by decide) ?_ | (refine k_load ?_; (refine o_val (v_loade rfl rfl rfl) rfl rfl (by decide) ?_)) | (refine k_index ?_; (refine o_val (v_index rfl (by omega) (idx hsx) rfl) rfl rfl (by decide) ?_)) | (refine k_blt ?_; (refine o_val (v_lenm rfl) rfl rfl (by decide) ?_)))) | (refine k_ops ?_; (first | refine o_go (by first | exact .inl rfl | exact .inr ⟨_, _, _, rfl, rfl, rfl⟩) ?_ | refine o_nil ?_ | refine o_no rfl rfl (by decide) ?_ | refine o_casep rfl rfl (fun _ => ?_) (fun _ => ?_))) | (refine k_run ?_; (first | refine r_seq ?_ | refine r_region ?_ | refine r_true rfl ?_ | refine r_skip ?_ | refine r_block ?_ | refine r_if rfl (fun _ => ?_) (fun _ => ?_) | refine r_exit rfl ?_)))
        all_goals try (exfalso; omega)
        all_goals refine r_nil 4 rfl ?_
        all_goals refine r_ret Try.func17 _ (res_three rfl rfl rfl rfl) ⟨?_, rfl⟩
        all_goals rw [hbad (by omega)]; rfl
      by_cases hs2 : (l.length : Int) ≤ s
      · repeat' (first | (refine k_op1 ?_; (first | refine o_sv rfl (by decide) ?_ | (refine k_load ?_; (refine o_val (v_loade rfl rfl rfl) rfl rfl (by decide) ?_)) | (refine k_index ?_; (refine o_val (v_index rfl (by omega) (idx hsx) rfl) rfl rfl (by decide) ?_)) | (refine k_blt ?_; (refine o_val (v_lenm rfl) rfl rfl (by decide) ?_)))) | (refine k_ops ?_; (first | refine o_go (by first | exact .inl rfl | exact .inr ⟨_, _, _, rfl, rfl, rfl⟩) ?_ | refine o_nil ?_ | refine o_no rfl rfl (by decide) ?_ | refine o_casep rfl rfl (fun _ => ?_) (fun _ => ?_))) | (refine k_run ?_; (first | refine r_seq ?_ | refine r_region ?_ | refine r_true rfl ?_ | refine r_skip ?_ | refine r_block ?_ | refine r_if rfl (fun _ => ?_) (fun _ => ?_) | refine r_exit rfl ?_)))
        all_goals try (exfalso; omega)
        all_goals refine r_nil 4 rfl ?_
        all_goals refine r_ret Try.func17 _ (res_three rfl rfl rfl rfl) ⟨?_, rfl⟩
        all_goals rw [hbad (by omega)]; rfl
      obtain ⟨x, hx⟩ : ∃ x, l[s.toNat]? = some x := ⟨_, List.getElem?_eq_getElem (by omega)⟩
      have hgx := getD_some hx
      by_cases hs3 : x = 0
      · repeat' (first | (refine k_op1 ?_; (first | refine o_sv rfl (by decide) ?_ | (refine k_load ?_; (refine o_val (v_loade rfl rfl rfl) rfl rfl (by decide) ?_)) | (refine k_index ?_; (first | refine o_val (v_index rfl (by omega) (idx hsx) rfl) rfl rfl (by decide) ?_ | refine o_val (v_index rfl (by omega) (idxi hx) rfl) rfl rfl (by decide) ?_)) | (refine k_blt ?_; (refine o_val (v_lenm rfl) rfl rfl (by decide) ?_)))) | (refine k_ops ?_; (first | refine o_go (by first | exact .inl rfl | exact .inr ⟨_, _, _, rfl, rfl, rfl⟩) ?_ | refine o_nil ?_ | refine o_no rfl rfl (by decide) ?_ | refine o_casep rfl rfl (fun _ => ?_) (fun _ => ?_))) | (refine k_run ?_; (first | refine r_seq ?_ | refine r_region ?_ | refine r_true rfl ?_ | refine r_skip ?_ | refine r_block ?_ | refine r_tr ?_ | refine r_if rfl (fun _ => ?_) (fun _ => ?_) | refine r_exit rfl ?_)) | (refine k_tr ?_; (refine t_sv rfl (by first | exact rfl | exact ⟨_, rfl, rfl, rfl⟩) (by decide) ?_)))
        all_goals try (exfalso; omega)
        all_goals refine r_nil 4 rfl ?_
        all_goals refine r_ret Try.func17 _ (res_three rfl rfl rfl rfl) ⟨?_, rfl⟩
        all_goals rw [hbad (by omega)]; rfl
      · rw [if_neg (by omega)] at h3
        have hx1 := hv x (List.mem_of_getElem? hx)
        obtain ⟨c, hcx, hc0, hc1⟩ := code_fits hvl (mem_ordL hx (by omega))
        rw [getD_some hcx, hgx] at h3
        rw [hgx] at hc1
        have hcn : ((x.toNat : Nat) : Int) = x := by omega
        have hw := wbits_s c (pbs [] 0 B) B.length x.toNat (by omega) (by omega) hBl hc0 (by omega)
        rw [hcn] at hw
        have hap : pbs (pbs [] 0 B) B.length (lowB c x.toNat) = pbs [] 0 (B ++ lowB c x.toNat) := by rw [pbs_app, Nat.zero_add]
        have hal : B.length + x.toNat = (B ++ lowB c x.toNat).length := by rw [List.length_append, lowB_len]
        rw [hap, hal] at hw
        repeat' (first | (refine k_op1 ?_; (first | refine o_sv rfl (by decide) ?_ | (refine k_load ?_; (refine o_val (v_loade rfl rfl rfl) rfl rfl (by decide) ?_)) | (refine k_index ?_; (first | refine o_val (v_index rfl (by omega) (idx hsx) rfl) rfl rfl (by decide) ?_ | refine o_val (v_index rfl (by omega) (idxi hx) rfl) rfl rfl (by decide) ?_)) | (refine k_bin ?_; (refine o_val (v_add (wi64 (by omega) (by omega))) rfl rfl (by decide) ?_)) | (refine k_blt ?_; (refine o_val (v_lenm rfl) rfl rfl (by decide) ?_)) | (refine k_call ?_; (refine o_effv2 (first := [.ptr (0, 500) 0]) (cap := []) hw rfl rfl rfl rfl rfl rfl (by decide) ?_)))) | (refine k_ops ?_; (first | refine o_go (by first | exact .inl rfl | exact .inr ⟨_, _, _, rfl, rfl, rfl⟩) ?_ | refine o_nil ?_ | refine o_no rfl rfl (by decide) ?_ | refine o_casep rfl rfl (fun _ => ?_) (fun _ => ?_))) | (refine k_run ?_; (first | refine r_seq ?_ | refine r_region ?_ | refine r_true rfl ?_ | refine r_skip ?_ | refine r_block ?_ | refine r_tr ?_ | refine r_inBlock ?_ | refine r_if rfl (fun _ => ?_) (fun _ => ?_) | refine r_exit rfl ?_)) | (refine k_tr ?_; (first | refine t_sv rfl (by first | exact rfl | exact ⟨_, rfl, rfl, rfl⟩) (by decide) ?_ | (refine kt_load ?_; (refine t_val (v_loade rfl rfl rfl) (by first | exact rfl | exact ⟨_, rfl, rfl, rfl⟩) rfl rfl (by decide) ?_)) | (refine kt_index ?_; (first | refine t_val (v_index rfl (by omega) (idxi hx) rfl) (by first | exact rfl | exact ⟨_, rfl, rfl, rfl⟩) rfl rfl (by decide) ?_ | refine t_val (v_index rfl (by omega) (idxi hcx) rfl) (by first | exact rfl | exact ⟨_, rfl, rfl, rfl⟩) rfl rfl (by decide) ?_)) | refine t_tail mix (by kernel_rfl) ?_)))
        all_goals try (exfalso; omega)
        exact r_less (ih (k + 1, B ++ lowB c x.toNat) ⟨by simp only; omega, by simp only; rw [← hal]; omega, h3⟩ (by simp only; omega)) rfl rfl
    · obtain rfl : k = symbols.length := by omega
      rw [List.drop_length, encB] at h3
      repeat' (first | (refine k_op1 ?_; (first | refine o_sv rfl (by decide) ?_ | (refine k_call ?_; (first | refine o_effk (wbytes_s B.length (pbs [] 0 B) (by omega)) rfl rfl (by decide) ?_ | refine o_effk (wlen_s B.length) rfl rfl (by decide) ?_)))) | (refine k_ops ?_; (first | refine o_go (by first | exact .inl rfl | exact .inr ⟨_, _, _, rfl, rfl, rfl⟩) ?_ | refine o_nil ?_)) | (refine k_run ?_; (first | refine r_seq ?_ | refine r_region ?_ | refine r_skip ?_ | refine r_block ?_ | refine r_if rfl (fun _ => ?_) (fun _ => ?_) | refine r_exit rfl ?_)))
      all_goals try (exfalso; omega)
      refine r_ret Try.func17 _ (res_three rfl rfl rfl rfl) ⟨?_, rfl⟩
      rw [show encR l symbols = (pbs [] 0 B, ((B.length : Nat) : Int), 0) by rw [encR, if_neg (by rw [hvl]; simp), if_neg h4, ← h3]]
end Go.Proofs.Ytlgdilkmcfpjjaa
namespace Go.Proofs.Ytlgdilkmcfpjjaa
open Go.Ab Go.Srt
set_option maxHeartbeats 20000000
set_option linter.unusedVariables false
set_option linter.unusedSimpArgs false
attribute [local irreducible] Run Ops Op1 Does Val Tr PureF Eff1 NF Rel EffV

theorem low_s (v : Int) (c : Nat) (hc : c ≤ 64) : PureF Try.prog 33 [I .u64 v, I .i64 (c : Nat)] (.d (bools (lowB v c))) := by
  refine pure_of fun H => ?_
  refine spec_of Try.func33 (by kernel_rfl) rfl (by simp) ?_
  dsimp only [Try.f33]
  repeat' (first | (refine k_op1 ?_; (first | refine o_sv rfl (by decide) ?_ | (refine k_bin ?_; (refine o_val (v_sub (wi64 (by omega) (by omega))) rfl rfl (by decide) ?_)))) | (refine k_ops ?_; (first | refine o_go (by first | exact .inl rfl | exact .inr ⟨_, _, _, rfl, rfl, rfl⟩) ?_ | refine o_nil ?_)) | (refine k_run ?_; (first | refine r_seq ?_ | refine r_region ?_ | refine r_block ?_)))
  refine r_slot_row 5 1000 4 1 rfl (by decide) rfl ?_
  refine r_loop ?_
  refine r_less (r_inv (fun q : Nat × Int × List Bool => ⟨23, [(0, I .u64 v), (5, .ref (0, 1000)), (6, I .i64 q.2.1)], [(1000, .row 4 1 (q.2.2.map fun x => [Dbool x]))], H⟩)
    (fun q => q.2.1 = (q.1 : Int) - 1 ∧ q.2.2.length + q.1 = c ∧ q.2.2 ++ lowB v q.1 = lowB v c) (fun q => q.1) ?_ (c, (c : Int) - 1, []) ⟨rfl, by simp, rfl⟩) rfl rfl
  intro ⟨k, i, B⟩ ⟨h1, h2, h3⟩ ih
  simp only at h1 h2 h3 ih ⊢
  cases k with
  | zero =>
    rw [lowB, List.append_nil] at h3
    subst h3
    repeat' (first | (refine k_op1 ?_; (first | refine o_sv rfl (by decide) ?_ | (refine k_conv ?_; (refine o_val (v_conv rfl rfl (wu64 (by omega) (by omega))) rfl rfl (by decide) ?_)))) | (refine k_ops ?_; (first | refine o_go (by first | exact .inl rfl | exact .inr ⟨_, _, _, rfl, rfl, rfl⟩) ?_ | refine o_nil ?_)) | (refine k_run ?_; (first | refine r_seq ?_ | refine r_region ?_ | refine r_skip ?_ | refine r_block ?_ | refine r_if rfl (fun _ => ?_) (fun _ => ?_) | refine r_exit rfl ?_)))
    all_goals try (exfalso; omega)
    refine r_freeze 1000 rfl ?_
    refine r_ret Try.func33 _ (res_one rfl rfl) ⟨?_, rfl⟩
    rfl
  | succ k =>
    rw [lowB] at h3
    have hik : i = (k : Nat) := by omega
    rw [← hik] at h3
    repeat' (first | (refine k_op1 ?_; (first | refine o_sv rfl (by decide) ?_ | (refine k_bin ?_; (first | refine o_val (v_shr (by omega)) rfl rfl (by decide) ?_ | refine o_val v_band rfl rfl (by decide) ?_ | refine o_val (v_sub (wi64 (by omega) (by omega))) rfl rfl (by decide) ?_)) | (refine k_blt ?_; (refine o_app1 (g := fun x : Bool => [Dbool x]) rfl rfl (bit0 (shrV .u64 v i)) rfl rfl rfl rfl rfl rfl rfl (by decide) (by omega) ?_)) | (refine k_lit ?_; (refine o_lit rfl rfl rfl rfl rfl rfl rfl rfl (by decide) ?_)) | (refine k_conv ?_; (refine o_val (v_conv rfl rfl (wu64 (by omega) (by omega))) rfl rfl (by decide) ?_)))) | (refine k_ops ?_; (first | refine o_go (by first | exact .inl rfl | exact .inr ⟨_, _, _, rfl, rfl, rfl⟩) ?_ | refine o_nil ?_)) | (refine k_run ?_; (first | refine r_seq ?_ | refine r_region ?_ | refine r_skip ?_ | refine r_block ?_ | refine r_inBlock ?_ | refine r_if rfl (fun _ => ?_) (fun _ => ?_) | refine r_exit rfl ?_)))
    all_goals try (exfalso; omega)
    refine r_ren 21 1000 rfl rfl ?_
    exact r_less (ih (k, i - 1, B ++ [bit0 (shrV .u64 v i)]) ⟨by simp only; omega, by simp only [List.length_append, List.length_cons, List.length_nil]; omega, by rw [← h3]; simp⟩ (by simp only; omega)) rfl rfl
/-- bits set one after the other -/
def rpack : List Bool → Nat → List Int → List Int
  | [], _, b => b
  | x :: r, i, b => rpack r (i + 1) (if x then setb b i else b)
theorem setb_app (b z : List Int) (i : Nat) (h : i / 8 < b.length) : setb (b ++ z) i = setb b i ++ z := by
  rw [setb, setb, List.set_append_left _ _ h]
  congr 2
  simp only [List.getD]
  rw [List.getElem?_append_left h]
theorem rpack_pbs : ∀ (r : List Bool) (b : List Int) (n k : Nat), b.length = (n + 7) / 8 → b.length + k = (n + r.length + 7) / 8 → rpack r n (b ++ List.replicate k 0) = pbs b n r
  | [], b, n, k, h1, h2 => by
    have : k = 0 := by simp at h2; omega
    subst this
    simp [rpack, pbs]
  | x :: r, b, n, k, h1, h2 => by
    rw [List.length_cons] at h2
    rw [rpack, pbs]
    obtain ⟨c, k', hc, hk, hcl⟩ : ∃ (c : List Int) (k' : Nat), (if n % 8 = 0 then b ++ [0] else b) = c ∧ b ++ List.replicate k 0 = c ++ List.replicate k' 0 ∧ c.length + k' = b.length + k := by
      by_cases h8 : n % 8 = 0
      · obtain ⟨k', rfl⟩ : ∃ k', k = k' + 1 := ⟨k - 1, by omega⟩
        exact ⟨b ++ [0], k', by rw [if_pos h8], by rw [List.replicate_succ]; simp, by simp; omega⟩
      · exact ⟨b, k, by rw [if_neg h8], rfl, rfl⟩
    have hlen : c.length = (n + 1 + 7) / 8 := by
      rw [← hc]; split
      · rw [List.length_append, List.length_singleton]; omega
      · omega
    have hps : pstep b n x = if x then setb c n else c := by rw [pstep, hc]
    rw [hk, hps]
    have ih := fun c' h => rpack_pbs r c' (n + 1) k' h
    cases x with
    | true =>
      simp only [if_true]
      rw [setb_app _ _ _ (by omega)]
      exact ih _ (by rw [setb, List.length_set]; exact hlen) (by rw [setb, List.length_set]; omega)
    | false => simp only [if_neg (by simp : ¬ (false = true))]; exact ih _ hlen (by omega)
theorem pack_s (B : List Bool) (hB : B.length ≤ 1000000) : PureF Try.prog 34 [.d (bools B)] (.d (bytesL (pbs [] 0 B))) := by
  refine pure_of fun H => ?_
  refine spec_of Try.func34 (by kernel_rfl) rfl (by simp) ?_
  dsimp only [Try.f34]
  have hz : (((B.length : Int) + 7) / 8).toNat = (B.length + 7) / 8 := by omega
  have hfin : rpack B 0 (List.replicate ((B.length + 7) / 8) 0) = pbs [] 0 B := by
    have := rpack_pbs B [] 0 ((B.length + 7) / 8) rfl (by simp)
    simpa using this
  repeat' (first | (refine k_op1 ?_; (first | refine o_sv rfl (by decide) ?_ | (refine k_bin ?_; (first | refine o_val (v_quo (by omega) (by omega) (wi64 (by omega) (by omega))) rfl rfl (by decide) ?_ | refine o_val (v_add (wi64 (by omega) (by omega))) rfl rfl (by decide) ?_)) | (refine k_blt ?_; (refine o_val (v_lenm rfl) rfl rfl (by decide) ?_)) | (refine k_make ?_; (refine o_make (xs := (List.replicate ((B.length + 7) / 8) (0 : Int)).map fun x => [Du8 x]) rfl rfl (by omega) (by omega) rfl rfl rfl (by decide) (by rw [hz]; simp) ?_)))) | (refine k_ops ?_; (first | refine o_go (by first | exact .inl rfl | exact .inr ⟨_, _, _, rfl, rfl, rfl⟩) ?_ | refine o_nil ?_)) | (refine k_run ?_; (first | refine r_seq ?_ | refine r_region ?_ | refine r_block ?_)))
  refine r_loop ?_
  refine r_less (r_inv (fun q : Nat × List Int => ⟨32, [(3, .ref (0, 10)), (11, .d (bools B)), (12, I .i64 B.length), (13, I .i64 (q.1 : Nat))], [(10, .row 5 1 (q.2.map fun x => [Du8 x]))], H⟩)
    (fun q => q.1 ≤ B.length ∧ q.2.length = (B.length + 7) / 8 ∧ rpack (B.drop q.1) q.1 q.2 = pbs [] 0 B) (fun q => B.length - q.1) ?_ (0, List.replicate ((B.length + 7) / 8) 0) ⟨by simp, by simp, hfin⟩) rfl rfl
  intro ⟨k, b⟩ ⟨h1, h2, h3⟩ ih
  simp only at h1 h2 h3 ih ⊢
  by_cases hlt : k < B.length
  · obtain ⟨x, hx⟩ : ∃ x, B[k]? = some x := ⟨_, List.getElem?_eq_getElem hlt⟩
    rw [drop_cons hx, rpack] at h3
    obtain ⟨z, hz⟩ : ∃ z, b[k / 8]? = some z := ⟨_, List.getElem?_eq_getElem (by omega)⟩
    have hgz := getD_some hz
    cases x with
    | true =>
      simp only [if_true] at h3
      have hsb : setb b k = b.set (k / 8) (orV .u8 z (shrV .u8 128 ((k % 8 : Nat) : Int))) := by rw [setb, hgz]
      rw [hsb] at h3
      repeat' (first | (refine k_op1 ?_; (first | refine o_sv rfl (by decide) ?_ | (refine k_load ?_; (first | refine o_val (v_rloadm hz rfl rfl rfl) rfl rfl (by decide) ?_ | refine o_val (v_loade rfl rfl rfl) rfl rfl (by decide) ?_)) | (refine k_index ?_; (first | refine o_val (v_index rfl (by omega) (idx hx) rfl) rfl rfl (by decide) ?_ | refine o_val (v_rindex rfl (by omega) (by rw [List.length_map]; omega) rfl) rfl rfl (by decide) ?_)) | (refine k_bin ?_; (first | refine o_val (v_quo (by omega) (by omega) (wi64 (by omega) (by omega))) rfl rfl (by decide) ?_ | refine o_val (v_rem (by omega) (by omega)) rfl rfl (by decide) ?_ | refine o_val (v_shr (by omega)) rfl rfl (by decide) ?_ | refine o_val v_bor rfl rfl (by decide) ?_ | refine o_val (v_add (wi64 (by omega) (by omega))) rfl rfl (by decide) ?_)) | (refine k_store ?_; (refine o_rstorem (orV .u8 z (shrV .u8 128 ((k % 8 : Nat) : Int))) rfl rfl rfl rfl hz rfl rfl rfl rfl ?_)) | (refine k_conv ?_; (refine o_val (v_conv rfl rfl (wu64 (by omega) (by omega))) rfl rfl (by decide) ?_)))) | (refine k_ops ?_; (first | refine o_go (by first | exact .inl rfl | exact .inr ⟨_, _, _, rfl, rfl, rfl⟩) ?_ | refine o_nil ?_)) | (refine k_run ?_; (first | refine r_seq ?_ | refine r_region ?_ | refine r_true rfl ?_ | refine r_skip ?_ | refine r_block ?_ | refine r_inBlock ?_ | refine r_if rfl (fun _ => ?_) (fun _ => ?_) | refine r_exit rfl ?_)))
      all_goals try (exfalso; omega)
      exact r_less (ih (k + 1, b.set (k / 8) (orV .u8 z (shrV .u8 128 ((k % 8 : Nat) : Int)))) ⟨by simp only; omega, by simp only [List.length_set]; exact h2, h3⟩ (by simp only; omega)) rfl rfl
    | false =>
      simp only [if_neg (by simp : ¬ (false = true))] at h3
      repeat' (first | (refine k_op1 ?_; (first | refine o_sv rfl (by decide) ?_ | (refine k_load ?_; (refine o_val (v_loade rfl rfl rfl) rfl rfl (by decide) ?_)) | (refine k_index ?_; (refine o_val (v_index rfl (by omega) (idx hx) rfl) rfl rfl (by decide) ?_)) | (refine k_bin ?_; (refine o_val (v_add (wi64 (by omega) (by omega))) rfl rfl (by decide) ?_)))) | (refine k_ops ?_; (first | refine o_go (by first | exact .inl rfl | exact .inr ⟨_, _, _, rfl, rfl, rfl⟩) ?_ | refine o_nil ?_)) | (refine k_run ?_; (first | refine r_seq ?_ | refine r_region ?_ | refine r_false rfl ?_ | refine r_skip ?_ | refine r_block ?_ | refine r_inBlock ?_ | refine r_if rfl (fun _ => ?_) (fun _ => ?_) | refine r_exit rfl ?_)))
      all_goals try (exfalso; omega)
      exact r_less (ih (k + 1, b) ⟨by simp only; omega, h2, h3⟩ (by simp only; omega)) rfl rfl
  · obtain rfl : k = B.length := by omega
    rw [List.drop_length, rpack] at h3
    repeat' (first | (refine k_op1 ?_; (refine o_sv rfl (by decide) ?_)) | (refine k_ops ?_; (first | refine o_go (by first | exact .inl rfl | exact .inr ⟨_, _, _, rfl, rfl, rfl⟩) ?_ | refine o_nil ?_)) | (refine k_run ?_; (first | refine r_seq ?_ | refine r_region ?_ | refine r_skip ?_ | refine r_block ?_ | refine r_if rfl (fun _ => ?_) (fun _ => ?_) | refine r_exit rfl ?_)))
    all_goals try (exfalso; omega)
    refine r_freeze 10 rfl ?_
    refine r_ret Try.func34 _ (res_one rfl rfl) ⟨?_, rfl⟩
    rw [← h3]; rfl
end Go.Proofs.Ytlgdilkmcfpjjaa
namespace Go.Proofs.Ytlgdilkmcfpjjaa
open Go.Ab Go.Srt
set_option maxHeartbeats 20000000
set_option linter.unusedVariables false
set_option linter.unusedSimpArgs false
attribute [local irreducible] Run Ops Op1 Does Val Tr PureF Eff1 NF Rel EffV

theorem rencode_s (l symbols : List Int) (hl : l.length ≤ 9223372036854775807) (hs : symbols.length ≤ 9223372036854775807) :
    PureF Try.prog 18 [.d (ints l), .d (ints symbols)] (.tup [.d (bytesL (encR l symbols).1), I .i64 (encR l symbols).2.1, I .i64 (encR l symbols).2.2]) := by
  refine pure_of fun H => ?_
  refine spec_of Try.func18 (by kernel_rfl) rfl (by simp) ?_
  dsimp only [Try.f18]
  have hc := rcodes_s l hl
  cases hvl : validH l with
  | false =>
    rw [codesR, hvl, if_neg (by simp)] at hc
    repeat' (first | (refine k_op1 ?_; (first | refine o_sv rfl (by decide) ?_ | (refine k_call ?_; (refine o_fn hc rfl (by decide) ?_)))) | (refine k_ops ?_; (first | refine o_go (by first | exact .inl rfl | exact .inr ⟨_, _, _, rfl, rfl, rfl⟩) ?_ | refine o_nil ?_)) | (refine k_run ?_; (first | refine r_seq ?_ | refine r_region ?_ | refine r_true rfl ?_)))
    all_goals try (exfalso; omega)
    refine r_nil 4 rfl ?_
    refine r_ret Try.func18 _ (res_three rfl rfl rfl rfl) ⟨?_, rfl⟩
    rw [encR, if_pos hvl]; rfl
  | true =>
    rw [codesR, hvl, if_pos rfl] at hc
    obtain ⟨hl1, hv, _⟩ := validH_ok hvl
    by_cases h4 : 4096 < symbols.length
    · repeat' (first | (refine k_op1 ?_; (first | refine o_sv rfl (by decide) ?_ | (refine k_blt ?_; (refine o_val (v_lenm rfl) rfl rfl (by decide) ?_)) | (refine k_call ?_; (refine o_fn hc rfl (by decide) ?_)))) | (refine k_ops ?_; (first | refine o_go (by first | exact .inl rfl | exact .inr ⟨_, _, _, rfl, rfl, rfl⟩) ?_ | refine o_nil ?_)) | (refine k_run ?_; (first | refine r_seq ?_ | refine r_region ?_ | refine r_false rfl ?_ | refine r_skip ?_ | refine r_block ?_ | refine r_if rfl (fun _ => ?_) (fun _ => ?_))))
      all_goals try (exfalso; omega)
      refine r_nil 4 rfl ?_
      refine r_ret Try.func18 _ (res_three rfl rfl rfl rfl) ⟨?_, rfl⟩
      rw [encR, if_neg (by rw [hvl]; simp), if_pos h4]; rfl
    have hcl : (codesH l).length = l.length := by rw [codesH, cl_len, List.length_replicate]
    repeat' (first | (refine k_op1 ?_; (first | refine o_sv rfl (by decide) ?_ | (refine k_blt ?_; (refine o_val (v_lenm rfl) rfl rfl (by decide) ?_)) | (refine k_call ?_; (refine o_fn hc rfl (by decide) ?_)))) | (refine k_ops ?_; (first | refine o_go (by first | exact .inl rfl | exact .inr ⟨_, _, _, rfl, rfl, rfl⟩) ?_ | refine o_nil ?_)) | (refine k_run ?_; (first | refine r_seq ?_ | refine r_region ?_ | refine r_false rfl ?_ | refine r_skip ?_ | refine r_block ?_ | refine r_if rfl (fun _ => ?_) (fun _ => ?_))))
    all_goals try (exfalso; omega)
    refine r_slot_row 9 1000 4 1 rfl (by decide) rfl ?_
    refine r_loop ?_
    refine r_less (r_inv (fun q : Nat × List Bool => ⟨60, [(0, .d (ints l)), (1, .d (ints symbols)), (7, .d (u64s (codesH l))), (9, .ref (0, 1000)), (23, .d (ints symbols)), (24, I .i64 symbols.length), (25, I .i64 (q.1 : Nat))], [(1000, .row 4 1 (q.2.map fun x => [Dbool x]))], H⟩)
      (fun q => q.1 ≤ symbols.length ∧ q.2.length ≤ 15 * q.1 ∧ encB l (codesH l) (symbols.drop q.1) q.2 = encB l (codesH l) symbols []) (fun q => symbols.length - q.1) ?_ (0, []) ⟨by simp, by simp, rfl⟩) rfl rfl
    intro ⟨k, B⟩ ⟨h1, h2, h3⟩ ih
    simp only at h1 h2 h3 ih ⊢
    by_cases hlt : k < symbols.length
    · obtain ⟨s, hsx⟩ : ∃ s, symbols[k]? = some s := ⟨_, List.getElem?_eq_getElem hlt⟩
      rw [drop_cons hsx, encB] at h3
      have hbad : ∀ (hb : s < 0 ∨ (l.length : Int) ≤ s ∨ l.getD s.toNat 0 = 0), encR l symbols = ([], 0, 8) := fun hb => by
        rw [if_pos hb] at h3
        rw [encR, if_neg (by rw [hvl]; simp), if_neg h4, ← h3]
      by_cases hs1 : s < 0
      · repeat' (first | (refine k_op1 ?_; (first | refine o_sv rfl (by decide) ?_ | (refine k_load ?_; (refine o_val (v_loade rfl rfl rfl) rfl rfl (by decide) ?_)) | (refine k_index ?_; (refine o_val (v_index rfl (by omega) (idx hsx) rfl) rfl rfl (by decide) ?_)) | (refine k_blt ?_; (refine o_val (v_lenm rfl) rfl rfl (by decide) ?_)))) | (refine k_ops ?_; (first | refine o_go (by first | exact .inl rfl | exact .inr ⟨_, _, _, rfl, rfl, rfl⟩) ?_ | refine o_nil ?_ | refine o_no rfl rfl (by decide) ?_ | refine o_casep rfl rfl (fun _ => ?_) (fun _ => ?_))) | (refine k_run ?_; (first | refine r_seq ?_ | refine r_region ?_ | refine r_true rfl ?_ | refine r_skip ?_ | refine r_block ?_ | refine r_if rfl (fun _ => ?_) (fun _ => ?_) | refine r_exit rfl ?_)))
        all_goals try (exfalso; omega)
        all_goals refine r_nil 4 rfl ?_
        all_goals refine r_ret Try.func18 _ (res_three rfl rfl rfl rfl) ⟨?_, rfl⟩
        all_goals rw [hbad (by omega)]; rfl
      by_cases hs2 : (l.length : Int) ≤ s
      · repeat' (first | (refine k_op1 ?_; (first | refine o_sv rfl (by decide) ?_ | (refine k_load ?_; (refine o_val (v_loade rfl rfl rfl) rfl rfl (by decide) ?_)) | (refine k_index ?_; (refine o_val (v_index rfl (by omega) (idx hsx) rfl) rfl rfl (by decide) ?_)) | (refine k_blt ?_; (refine o_val (v_lenm rfl) rfl rfl (by decide) ?_)))) | (refine k_ops ?_; (first | refine o_go (by first | exact .inl rfl | exact .inr ⟨_, _, _, rfl, rfl, rfl⟩) ?_ | refine o_nil ?_ | refine o_no rfl rfl (by decide) ?_ | refine o_casep rfl rfl (fun _ => ?_) (fun _ => ?_))) | (refine k_run ?_; (first | refine r_seq ?_ | refine r_region ?_ | refine r_true rfl ?_ | refine r_skip ?_ | refine r_block ?_ | refine r_if rfl (fun _ => ?_) (fun _ => ?_) | refine r_exit rfl ?_)))
        all_goals try (exfalso; omega)
        all_goals refine r_nil 4 rfl ?_
        all_goals refine r_ret Try.func18 _ (res_three rfl rfl rfl rfl) ⟨?_, rfl⟩
        all_goals rw [hbad (by omega)]; rfl
      obtain ⟨x, hx⟩ : ∃ x, l[s.toNat]? = some x := ⟨_, List.getElem?_eq_getElem (by omega)⟩
      have hgx := getD_some hx
      by_cases hs3 : x = 0
      · repeat' (first | (refine k_op1 ?_; (first | refine o_sv rfl (by decide) ?_ | (refine k_load ?_; (refine o_val (v_loade rfl rfl rfl) rfl rfl (by decide) ?_)) | (refine k_index ?_; (first | refine o_val (v_index rfl (by omega) (idx hsx) rfl) rfl rfl (by decide) ?_ | refine o_val (v_index rfl (by omega) (idxi hx) rfl) rfl rfl (by decide) ?_)) | (refine k_blt ?_; (refine o_val (v_lenm rfl) rfl rfl (by decide) ?_)))) | (refine k_ops ?_; (first | refine o_go (by first | exact .inl rfl | exact .inr ⟨_, _, _, rfl, rfl, rfl⟩) ?_ | refine o_nil ?_ | refine o_no rfl rfl (by decide) ?_ | refine o_casep rfl rfl (fun _ => ?_) (fun _ => ?_))) | (refine k_run ?_; (first | refine r_seq ?_ | refine r_region ?_ | refine r_true rfl ?_ | refine r_skip ?_ | refine r_block ?_ | refine r_tr ?_ | refine r_if rfl (fun _ => ?_) (fun _ => ?_) | refine r_exit rfl ?_)) | (refine k_tr ?_; (refine t_sv rfl (by first | exact rfl | exact ⟨_, rfl, rfl, rfl⟩) (by decide) ?_)))
        all_goals try (exfalso; omega)
        all_goals refine r_nil 4 rfl ?_
        all_goals refine r_ret Try.func18 _ (res_three rfl rfl rfl rfl) ⟨?_, rfl⟩
        all_goals rw [hbad (by omega)]; rfl
      · rw [if_neg (by omega)] at h3
        have hx1 := hv x (List.mem_of_getElem? hx)
        obtain ⟨c, hcx, hc0, hc1⟩ := code_fits hvl (mem_ordL hx (by omega))
        rw [getD_some hcx, hgx] at h3
        have hcn : ((x.toNat : Nat) : Int) = x := by omega
        have hw := low_s c x.toNat (by omega)
        rw [hcn] at hw
        have hlb := lowB_len c x.toNat
        repeat' (first | (refine k_op1 ?_; (first | refine o_sv rfl (by decide) ?_ | (refine k_load ?_; (refine o_val (v_loade rfl rfl rfl) rfl rfl (by decide) ?_)) | (refine k_index ?_; (first | refine o_val (v_index rfl (by omega) (idx hsx) rfl) rfl rfl (by decide) ?_ | refine o_val (v_index rfl (by omega) (idxi hx) rfl) rfl rfl (by decide) ?_)) | (refine k_bin ?_; (refine o_val (v_add (wi64 (by omega) (by omega))) rfl rfl (by decide) ?_)) | (refine k_blt ?_; (refine o_val (v_lenm rfl) rfl rfl (by decide) ?_)))) | (refine k_ops ?_; (first | refine o_go (by first | exact .inl rfl | exact .inr ⟨_, _, _, rfl, rfl, rfl⟩) ?_ | refine o_nil ?_ | refine o_no rfl rfl (by decide) ?_ | refine o_casep rfl rfl (fun _ => ?_) (fun _ => ?_))) | (refine k_run ?_; (first | refine r_seq ?_ | refine r_region ?_ | refine r_true rfl ?_ | refine r_skip ?_ | refine r_block ?_ | refine r_tr ?_ | refine r_inBlock ?_ | refine r_if rfl (fun _ => ?_) (fun _ => ?_) | refine r_exit rfl ?_)) | (refine k_tr ?_; (first | (refine kt_end ?_; refine t_end mix (by kernel_rfl) ?_) | refine t_sv rfl (by first | exact rfl | exact ⟨_, rfl, rfl, rfl⟩) (by decide) ?_ | (refine kt_load ?_; (refine t_val (v_loade rfl rfl rfl) (by first | exact rfl | exact ⟨_, rfl, rfl, rfl⟩) rfl rfl (by decide) ?_)) | (refine kt_index ?_; (first | refine t_val (v_index rfl (by omega) (idxi hx) rfl) (by first | exact rfl | exact ⟨_, rfl, rfl, rfl⟩) rfl rfl (by decide) ?_ | refine t_val (v_index rfl (by omega) (idxi hcx) rfl) (by first | exact rfl | exact ⟨_, rfl, rfl, rfl⟩) rfl rfl (by decide) ?_)) | (refine kt_blt ?_; (refine t_apps (g := fun x : Bool => [Dbool x]) (q := B) (r := lowB c x.toNat) (by first | exact rfl | exact ⟨_, rfl, rfl, rfl⟩) rfl rfl rfl rfl rfl (fun _ => rfl) rfl rfl (by decide) (by omega) ?_)) | (refine kt_call ?_; (refine t_fn hw (by first | exact rfl | exact ⟨_, rfl, rfl, rfl⟩) rfl (by decide) ?_)))))
        all_goals try (exfalso; omega)
        refine r_ren 54 1000 rfl rfl ?_
        exact r_less (ih (k + 1, B ++ lowB c x.toNat) ⟨by simp only; omega, by simp only [List.length_append]; omega, h3⟩ (by simp only; omega)) rfl rfl
    · obtain rfl : k = symbols.length := by omega
      rw [List.drop_length, encB] at h3
      refine r_freeze 1000 rfl ?_
      repeat' (first | (refine k_op1 ?_; (first | refine o_sv rfl (by decide) ?_ | (refine k_blt ?_; (refine o_val (v_lenm rfl) rfl rfl (by decide) ?_)) | (refine k_call ?_; (refine o_fn (pack_s B (by omega)) rfl (by decide) ?_)))) | (refine k_ops ?_; (first | refine o_go (by first | exact .inl rfl | exact .inr ⟨_, _, _, rfl, rfl, rfl⟩) ?_ | refine o_nil ?_)) | (refine k_run ?_; (first | refine r_seq ?_ | refine r_region ?_ | refine r_skip ?_ | refine r_block ?_ | refine r_if rfl (fun _ => ?_) (fun _ => ?_) | refine r_exit rfl ?_)))
      all_goals try (exfalso; omega)
      refine r_ret Try.func18 _ (res_three rfl rfl rfl rfl) ⟨?_, rfl⟩
      rw [show encR l symbols = (pbs [] 0 B, ((B.length : Nat) : Int), 0) by rw [encR, if_neg (by rw [hvl]; simp), if_neg h4, ← h3]]
end Go.Proofs.Ytlgdilkmcfpjjaa
namespace Go.Proofs.Ytlgdilkmcfpjjaa
open Go.Ab Go.Srt
set_option maxHeartbeats 20000000
set_option linter.unusedVariables false
set_option linter.unusedSimpArgs false
attribute [local irreducible] Run Ops Op1 Does Val Tr PureF Eff1 NF Rel EffV

theorem aw1 : huffL [5, 2, 1, 1] 15 = ([1, 2, 3, 3], 0) := by decide +kernel
theorem aw2 : huffL [5, 2, 1, 1] 2 = ([2, 2, 2, 2], 0) := by decide +kernel
theorem aw3 : encR [1, 2, 3, 3] [3, 0] = ([224], 4, 0) := by decide +kernel
theorem awake_s : PureF Try.prog 15 [] (B true) := by
  refine pure_of fun H => ?_
  refine spec_of Try.func15 (by kernel_rfl) rfl (by simp) ?_
  dsimp only [Try.f15]
  have h1 := lengths_s [5, 2, 1, 1] 15 (by simp)
  have h2 := lengths_s [5, 2, 1, 1] 2 (by simp)
  have h3 := encode_s [1, 2, 3, 3] [3, 0] (by simp) (by simp)
  rw [aw1] at h1
  rw [aw2] at h2
  rw [aw3] at h3
  have h4 := same_s [1, 2, 3, 3] [1, 2, 3, 3] (by simp) (by simp)
  have h5 := same_s [2, 2, 2, 2] [2, 2, 2, 2] (by simp) (by simp)
  rw [decide_eq_true rfl] at h4 h5
  repeat' (first | (refine k_op1 ?_; (first | refine o_sv rfl (by decide) ?_ | (refine k_call ?_; (first | refine o_fn h1 rfl (by decide) ?_ | refine o_fn h2 rfl (by decide) ?_ | refine o_fn h3 rfl (by decide) ?_ | refine o_fn h4 rfl (by decide) ?_ | refine o_fn h5 rfl (by decide) ?_)) | (refine k_lit ?_; (refine o_lit rfl rfl rfl rfl rfl rfl rfl rfl (by decide) ?_)) | refine o_val (v_tostr (l := [224]) rfl rfl rfl) rfl rfl (by decide) ?_)) | (refine k_ops ?_; (first | refine o_go (by first | exact .inl rfl | exact .inr ⟨_, _, _, rfl, rfl, rfl⟩) ?_ | refine o_nil ?_)) | (refine k_run ?_; (first | refine r_seq ?_ | refine r_region ?_)))
  all_goals try (exfalso; omega)
  refine r_ret Try.func15 _ (res_one rfl rfl) ⟨?_, rfl⟩
  have : decide (strOfNums [224] = (⟨#[224]⟩ : ByteArray)) = true := by decide +kernel
  exact congrArg (fun b => RV.v (B b)) this
theorem huffL_len (counts : List Int) (limit : Int) : (huffL counts limit).1.length ≤ counts.length := by
  rw [huffL]
  split
  · simp
  · split
    · simp [ones_len]
    · simp [back_len]
theorem lengths_law (counts : List Int) (limit : Int) (hl : counts.length ≤ 9223372036854775807) : PureF Try.prog 3 [.d (ints counts), I .i64 limit] (B true) := by
  refine pure_of fun H => ?_
  refine spec_of Try.func3 (by kernel_rfl) rfl (by simp) ?_
  dsimp only [Try.f3]
  have h1 := lengths_s counts limit hl
  have h2 := rlengths_s counts limit hl
  rw [← huff_ref] at h2
  by_cases h40 : 40 < counts.length
  · repeat' (first | (refine k_op1 ?_; (first | refine o_sv rfl (by decide) ?_ | (refine k_blt ?_; (refine o_val (v_lenm rfl) rfl rfl (by decide) ?_)))) | (refine k_ops ?_; (first | refine o_go (by first | exact .inl rfl | exact .inr ⟨_, _, _, rfl, rfl, rfl⟩) ?_ | refine o_nil ?_)) | (refine k_run ?_; (first | refine r_seq ?_ | refine r_region ?_ | refine r_skip ?_ | refine r_if rfl (fun _ => ?_) (fun _ => ?_))))
    all_goals try (exfalso; omega)
    exact r_ret Try.func3 _ (res_one rfl rfl) ⟨rfl, rfl⟩
  have hlen := huffL_len counts limit
  have h3 := same_s (huffL counts limit).1 (huffL counts limit).1 (by omega) (by omega)
  rw [decide_eq_true rfl] at h3
  repeat' (first | (refine k_op1 ?_; (first | refine o_sv rfl (by decide) ?_ | (refine k_blt ?_; (refine o_val (v_lenm rfl) rfl rfl (by decide) ?_)) | (refine k_call ?_; (first | refine o_fn h1 rfl (by decide) ?_ | refine o_fn h2 rfl (by decide) ?_ | refine o_fn h3 rfl (by decide) ?_ | refine o_fn awake_s rfl (by decide) ?_)))) | (refine k_ops ?_; (first | refine o_go (by first | exact .inl rfl | exact .inr ⟨_, _, _, rfl, rfl, rfl⟩) ?_ | refine o_nil ?_ | refine o_no rfl rfl (by decide) ?_ | refine o_casep rfl rfl (fun _ => ?_) (fun _ => ?_))) | (refine k_run ?_; (first | refine r_seq ?_ | refine r_region ?_ | refine r_skip ?_ | refine r_if rfl (fun _ => ?_) (fun _ => ?_))))
  all_goals try (exfalso; omega)
  all_goals exact r_ret Try.func3 _ (res_one rfl rfl) ⟨rfl, rfl⟩
theorem encodes_law (l symbols : List Int) (hl : l.length ≤ 9223372036854775807) (hs : symbols.length ≤ 9223372036854775807) : PureF Try.prog 6 [.d (ints l), .d (ints symbols)] (B true) := by
  refine pure_of fun H => ?_
  refine spec_of Try.func6 (by kernel_rfl) rfl (by simp) ?_
  dsimp only [Try.f6]
  have h1 := encode_s l symbols hl hs
  have h2 := rencode_s l symbols hl hs
  by_cases h40 : 40 < l.length
  · repeat' (first | (refine k_op1 ?_; (first | refine o_sv rfl (by decide) ?_ | (refine k_blt ?_; (refine o_val (v_lenm rfl) rfl rfl (by decide) ?_)))) | (refine k_ops ?_; (first | refine o_go (by first | exact .inl rfl | exact .inr ⟨_, _, _, rfl, rfl, rfl⟩) ?_ | refine o_nil ?_ | refine o_no rfl rfl (by decide) ?_ | refine o_casep rfl rfl (fun _ => ?_) (fun _ => ?_))) | (refine k_run ?_; (first | refine r_seq ?_ | refine r_region ?_ | refine r_true rfl ?_ | refine r_skip ?_ | refine r_if rfl (fun _ => ?_) (fun _ => ?_))))
    all_goals try (exfalso; omega)
    all_goals exact r_ret Try.func6 _ (res_one rfl rfl) ⟨rfl, rfl⟩
  by_cases h60 : 60 < symbols.length
  · repeat' (first | (refine k_op1 ?_; (first | refine o_sv rfl (by decide) ?_ | (refine k_blt ?_; (refine o_val (v_lenm rfl) rfl rfl (by decide) ?_)))) | (refine k_ops ?_; (first | refine o_go (by first | exact .inl rfl | exact .inr ⟨_, _, _, rfl, rfl, rfl⟩) ?_ | refine o_nil ?_ | refine o_no rfl rfl (by decide) ?_ | refine o_casep rfl rfl (fun _ => ?_) (fun _ => ?_))) | (refine k_run ?_; (first | refine r_seq ?_ | refine r_region ?_ | refine r_true rfl ?_ | refine r_skip ?_ | refine r_if rfl (fun _ => ?_) (fun _ => ?_))))
    all_goals try (exfalso; omega)
    all_goals exact r_ret Try.func6 _ (res_one rfl rfl) ⟨rfl, rfl⟩
  repeat' (first | (refine k_op1 ?_; (first | refine o_sv rfl (by decide) ?_ | (refine k_blt ?_; (refine o_val (v_lenm rfl) rfl rfl (by decide) ?_)) | (refine k_call ?_; (first | refine o_fn h1 rfl (by decide) ?_ | refine o_fn h2 rfl (by decide) ?_ | refine o_fn awake_s rfl (by decide) ?_)) | refine o_val (v_tostr (l := (encR l symbols).1) rfl rfl rfl) rfl rfl (by decide) ?_)) | (refine k_ops ?_; (first | refine o_go (by first | exact .inl rfl | exact .inr ⟨_, _, _, rfl, rfl, rfl⟩) ?_ | refine o_nil ?_ | refine o_no rfl rfl (by decide) ?_ | refine o_casep rfl rfl (fun _ => ?_) (fun _ => ?_))) | (refine k_run ?_; (first | refine r_seq ?_ | refine r_region ?_ | refine r_true rfl ?_ | refine r_skip ?_ | refine r_if rfl (fun _ => ?_) (fun _ => ?_))))
  all_goals try (exfalso; omega)
  all_goals first
    | exact r_ret Try.func6 _ (res_one rfl rfl) ⟨rfl, rfl⟩
    | (exfalso; simp_all; done)
theorem codes_law (l : List Int) (hl : l.length ≤ 9223372036854775807) : PureF Try.prog 8 [.d (ints l)] (B true) := by
  refine pure_of fun H => ?_
  refine spec_of Try.func8 (by kernel_rfl) rfl (by simp) ?_
  dsimp only [Try.f8]
  have h1 := codes_s l hl
  have h2 := rcodes_s l hl
  by_cases h60 : 60 < l.length
  · repeat' (first | (refine k_op1 ?_; (first | refine o_sv rfl (by decide) ?_ | (refine k_blt ?_; (refine o_val (v_lenm rfl) rfl rfl (by decide) ?_)))) | (refine k_ops ?_; (first | refine o_go (by first | exact .inl rfl | exact .inr ⟨_, _, _, rfl, rfl, rfl⟩) ?_ | refine o_nil ?_)) | (refine k_run ?_; (first | refine r_seq ?_ | refine r_region ?_ | refine r_skip ?_ | refine r_if rfl (fun _ => ?_) (fun _ => ?_))))
    all_goals try (exfalso; omega)
    all_goals exact r_ret Try.func8 _ (res_one rfl rfl) ⟨rfl, rfl⟩
  repeat' (first | (refine k_op1 ?_; (first | refine o_sv rfl (by decide) ?_ | (refine k_blt ?_; (refine o_val (v_lenm rfl) rfl rfl (by decide) ?_)) | (refine k_call ?_; (first | refine o_fn h1 rfl (by decide) ?_ | refine o_fn h2 rfl (by decide) ?_)))) | (refine k_ops ?_; (first | refine o_go (by first | exact .inl rfl | exact .inr ⟨_, _, _, rfl, rfl, rfl⟩) ?_ | refine o_nil ?_ | refine o_no rfl rfl (by decide) ?_ | refine o_casen rfl rfl (fun _ => ?_) (fun _ => ?_))) | (refine k_run ?_; (first | refine r_seq ?_ | refine r_region ?_ | refine r_true rfl ?_ | refine r_skip ?_ | refine r_block ?_ | refine r_if rfl (fun _ => ?_) (fun _ => ?_) | refine r_ifn rfl (fun _ => ?_) (fun _ => ?_))))
  all_goals try (exfalso; omega)
  all_goals try (exfalso; simp_all; done)
  obtain ⟨cs, hcs⟩ : ∃ cs, (codesR l).1 = cs := ⟨_, rfl⟩
  have hcl : cs.length ≤ l.length := by
    rw [← hcs, codesR]; split
    · simp [codesH, cl_len]
    · simp
  rw [hcs]
  refine r_loop ?_
  refine r_less (r_inv (fun k : Nat => ⟨47, [(3, .d (u64s cs)), (5, .d (u64s cs)), (32, I .i64 cs.length), (33, I .i64 (k : Nat))], [], H⟩) (fun k => k ≤ cs.length) (fun k => cs.length - k) ?_ 0 (by omega)) rfl rfl
  intro k hk ih
  by_cases hlt : k < cs.length
  · obtain ⟨x, hx⟩ : ∃ x, cs[k]? = some x := ⟨_, List.getElem?_eq_getElem hlt⟩
    repeat' (first | (refine k_op1 ?_; (first | refine o_sv rfl (by decide) ?_ | (refine k_bin ?_; (refine o_val (v_add (wi64 (by omega) (by omega))) rfl rfl (by decide) ?_)))) | (refine k_ops ?_; (first | refine o_go (by first | exact .inl rfl | exact .inr ⟨_, _, _, rfl, rfl, rfl⟩) ?_ | refine o_nil ?_)) | (refine k_run ?_; (first | refine r_seq ?_ | refine r_region ?_ | refine r_skip ?_ | refine r_block ?_ | refine r_tr ?_ | refine r_inBlock ?_ | refine r_if rfl (fun _ => ?_) (fun _ => ?_) | refine r_ifn rfl (fun _ => ?_) (fun _ => ?_) | refine r_exit rfl ?_)) | (refine k_tr ?_; (first | (refine kt_end ?_; refine t_end mix (by kernel_rfl) ?_) | refine t_sv rfl (by first | exact rfl | exact ⟨_, rfl, rfl, rfl⟩) (by decide) ?_ | (refine kt_load ?_; (refine t_val (v_loade rfl rfl rfl) (by first | exact rfl | exact ⟨_, rfl, rfl, rfl⟩) rfl rfl (by decide) ?_)) | (refine kt_index ?_; (refine t_val (v_index rfl (by omega) (idx hx) rfl) (by first | exact rfl | exact ⟨_, rfl, rfl, rfl⟩) rfl rfl (by decide) ?_)))))
    all_goals try (exfalso; omega)
    all_goals first
      | exact r_less (ih (k + 1) (by omega) (by omega)) rfl rfl
      | (exfalso; simp_all; done)
  · repeat' (first | (refine k_op1 ?_; (first | refine o_sv rfl (by decide) ?_ | (refine k_call ?_; (refine o_fn awake_s rfl (by decide) ?_)))) | (refine k_ops ?_; (first | refine o_go (by first | exact .inl rfl | exact .inr ⟨_, _, _, rfl, rfl, rfl⟩) ?_ | refine o_nil ?_)) | (refine k_run ?_; (first | refine r_seq ?_ | refine r_region ?_ | refine r_skip ?_ | refine r_block ?_ | refine r_tr ?_ | refine r_if rfl (fun _ => ?_) (fun _ => ?_) | refine r_exit rfl ?_)) | (refine k_tr ?_; (refine t_sv rfl (by first | exact rfl | exact ⟨_, rfl, rfl, rfl⟩) (by decide) ?_)))
    all_goals try (exfalso; omega)
    all_goals exact r_ret Try.func8 _ (res_one rfl rfl) ⟨rfl, rfl⟩
end Go.Proofs.Ytlgdilkmcfpjjaa
