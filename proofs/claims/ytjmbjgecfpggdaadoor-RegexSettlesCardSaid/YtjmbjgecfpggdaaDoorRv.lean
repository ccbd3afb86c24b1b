/- A part of the proof: G29, G31, G32. -/
import Derived.Test.YtjmbjgecfpggdaaDoorRq
import Derived.Test.YtjmbjgecfpggdaaDoorRr
import Derived.Test.YtjmbjgecfpggdaaDoorRp
import Derived.Test.YtjmbjgecfpggdaaDoorRx
import Derived.Test.YtjmbjgecfpggdaaDoorRu
set_option linter.all false
set_option linter.unusedVariables false
set_option linter.unusedSimpArgs false
namespace Go.Proofs.YtjmbjgecfpggdaaDoor
open Go.Ab Go.Rx
set_option maxHeartbeats 20000000
set_option maxRecDepth 100000
set_option linter.unusedVariables false
set_option linter.unusedSimpArgs false
set_option linter.unusedSectionVars false
attribute [local irreducible] Run Ops Op1 Does Val Tr PureF Eff1 NF Rel EffV EffM EffN
mutual
theorem fit_allS : ∀ e : Rx, fit e → allS (fun l => l.length ≤ 9223372036854775807) e
  | .mk op mn mx rs ks, h => by rw [fit] at h; rw [allS]; exact ⟨h.1, fitL_allS ks h.2.2⟩
theorem fitL_allS : ∀ ks : List Rx, fitL ks → allSL (fun l => l.length ≤ 9223372036854775807) ks
  | [], _ => by rw [allSL]; trivial
  | k :: ks, h => by rw [fitL] at h; rw [allSL]; exact ⟨fit_allS k h.1, fitL_allS ks h.2⟩
end
theorem inB_inR (l : List Rg) (c : Int) : inB l c = inR l c := rfl
abbrev i32c (x : Int) : List D := [Di32 x]
theorem un_all : ∀ (l : List U) (i : Nat), (unF i l).all okU = l.all okUn
  | [], i => rfl
  | u :: l, i => by
    rw [unF, List.all_cons, List.all_cons, un_all l]
    congr 1
    simp only [okU, okUn]
    congr 1
    rw [decide_eq_decide]; omega
theorem nxF_lt (S : Nat) : ∀ (l : List Nat) (i acc : Nat), acc < 2 ^ 64 → (∀ x ∈ l, x < 2 ^ 64) → nxF S i acc l < 2 ^ 64
  | [], i, acc, h, _ => h
  | x :: l, i, acc, h, hl => by
    rw [nxF]
    refine nxF_lt S l _ _ ?_ (fun y hy => hl y (by simp [hy]))
    split
    · exact Nat.or_lt_two_pow h (hl x (by simp))
    · exact h
theorem val_pn {e : Rx} (h : val e = 0) : Rx.pn e ≤ 64 := by
  rw [val] at h
  split at h
  · simp at h
  split at h
  · simp at h
  split at h
  · simp at h
  · omega
theorem match_s (g : FuncId) (vs : Int → List Int) (hvs : ∀ c : Int, Utf8.valid c = true → PureF Tryd.prog g [I .i32 c] (.d (.slice ((vs c).map i32c)))) (hvl : ∀ c, (vs c).length ≤ 3) (e : Rx) (hf : fit e) (s : ByteArray) (hs : s.size ≤ 1000000) :
    PureF Tryd.prog 34 [.d (Drx e), S s, .fn (.func g) [] []] (B (mtS vs e s)) := by
  refine pure_of fun H => ?_
  have hval := validate_s e hf
  have hvd := valid_s s hs
  rw [un_all] at hvd
  change PureF Tryd.prog 44 [S s] (B (vldS s)) at hvd
  have hmt : mtS vs e s = (decide (val e = 0) && vldS s && Rx.mt (okV vs) e (runes s)) := rfl
  obtain ⟨res, hres⟩ : ∃ b, mtS vs e s = b := ⟨_, rfl⟩
  rw [hres] at hmt ⊢
  by_cases h0 : val e = 0
  · cases h1 : vldS s with
    | false =>
      rw [h1, Bool.and_false, Bool.false_and] at hmt
      rw [h1] at hvd
      rw [h0] at hval
      subst hmt
      obtain ⟨op, mn, mx, rs, ks⟩ := e
      rw [Drx_mk] at hval ⊢
      refine spec_of Tryd.func34 (by kernel_rfl) rfl (by simp) ?_
      dsimp only [Tryd.f34]
      repeat' (first | (refine k_op1 ?_; (first | refine o_sv rfl (by decide) ?_ | (refine k_load ?_; (refine o_val (v_loada rfl rfl rfl) rfl rfl (by decide) ?_)) | (refine k_call ?_; (first | refine o_fn hval rfl (by decide) ?_ | refine o_fn hvd rfl (by decide) ?_)) | (refine k_box ?_; (refine o_does (d_box_d rfl rfl (by decide)) ?_)))) | (refine k_ops ?_; (first | refine o_go (by first | exact .inl rfl | exact .inr ⟨_, _, _, rfl, rfl, rfl⟩) ?_ | refine o_nil ?_)) | (refine k_run ?_; (first | refine r_seq ?_ | refine r_region ?_ | refine r_true rfl ?_)))
      all_goals try (exfalso; omega)
      all_goals exact r_ret Tryd.func34 _ (res_one rfl rfl) ⟨rfl, rfl⟩
    | true =>
      rw [h1, h0, decide_eq_true rfl, Bool.true_and, Bool.true_and] at hmt
      rw [h1] at hvd
      have hvn := val_vns h0
      have hpn := val_pn h0
      have hof := of_s e hvn hf hpn
      have hbl := (kidO hvn).bl tb0 rfl
      have hfw := (kidO hvn).few tb0 rfl
      have hlv := bd_lv.1 e (fit_allS e hf) tb0 (by simp)
      rw [h0] at hval
      dsimp only [ofB] at hof
      rw [Rx.mt] at hmt
      change res = mtF (okV vs) (bd e tb0).1 (bd e tb0).2 (runes s) at hmt
      generalize hB : bd e tb0 = r1 at *
      obtain ⟨t1, p⟩ := r1
      have hfw2 : (t1.lv.length : Int) ≤ Rx.pn e := by simpa using hfw
      obtain ⟨s2, pf, pl⟩ := hbl.sm ⟨rfl, by simp⟩ (by show t1.lv.length ≤ 64; omega)
      obtain ⟨lv, fo⟩ := t1
      have hl64 : lv.length ≤ 64 := by
        have : lv.length = (⟨lv, fo⟩ : Tb).lv.length := rfl
        omega
      have hfo : fo.length = lv.length := s2.len
      have hfx : ∀ x ∈ fo, x < 2 ^ 64 := s2.sm
      simp only at hlv pf pl hmt hof
      obtain ⟨op, mn, mx, rs, ks⟩ := e
      rw [Drx_mk] at hval hof ⊢
      refine spec_of Tryd.func34 (by kernel_rfl) rfl (by simp) ?_
      dsimp only [Tryd.f34]
      repeat' (first | (refine k_op1 ?_; (first | refine o_sv rfl (by decide) ?_ | (refine k_load ?_; (refine o_val (v_loada rfl rfl rfl) rfl rfl (by decide) ?_)) | (refine k_call ?_; (first | refine o_fn hval rfl (by decide) ?_ | refine o_fn hvd rfl (by decide) ?_ | (refine o_calln rfl (hof _) (by decide) rfl (fun r H' h => ⟨_, h.1, h.2, rfl, rfl, ?_⟩)) /- o_call -/)) | (refine k_box ?_; (refine o_does (d_box_d rfl rfl (by decide)) ?_)) | refine o_range rfl rfl rfl (by decide) ?_)) | (refine k_ops ?_; (first | refine o_go (by first | exact .inl rfl | exact .inr ⟨_, _, _, rfl, rfl, rfl⟩) ?_ | refine o_nil ?_)) | (refine k_run ?_; (first | refine r_seq ?_ | refine r_region ?_ | refine r_false rfl ?_ | refine r_skip ?_ | refine r_block ?_)))
      all_goals try (exfalso; omega)
      refine r_loop ?_
      refine r_less (r_inv (fun q : Nat × Nat × Bool => ⟨88, [(2, .fn (.func g) [] []), (7, .ptr (0, 26) 0), (8, I .u64 (q.2.1 : Nat)), (9, B q.2.2), (28, .ptr (0, 28) 0)], [(26, tbx lv p.f p.l fo p.nu), (28, .siter s q.1)], H⟩)
        (fun q => q.1 ≤ s.size ∧ q.2.1 < 2 ^ 64 ∧ ((q.2.2 = true ∧ q.1 = 0 ∧ q.2.1 = 0) ∨ (q.2.2 = false ∧ runF (okV vs) ⟨lv, fo⟩ p.l q.2.1 ((rst s q.1).map (·.r)) = res))) (fun q => s.size - q.1) ?_ (0, 0, true) ⟨Nat.zero_le _, by decide, .inl ⟨rfl, rfl, rfl⟩⟩) rfl rfl
      rintro ⟨q, S, beg⟩ ⟨i1, i2, i3⟩ ih
      simp only at i1 i2 i3 ih ⊢
      by_cases hlt : q < s.size
      · have hd := rst_lt hlt
        have hw := dec_w s q hlt
        have hcv := dec_valid s q hlt
        have hvc := hvs _ hcv
        have hvl2 := hvl ((Utf8.decode s q).1 : Nat)
        have hnx := next64_s (X := 26) lv p.f p.l fo p.nu S i2 (by omega) hfx beg 0
        obtain ⟨N, hN⟩ : ∃ N, (if beg = true then p.f else nxF S 0 0 fo) = N := ⟨_, rfl⟩
        have hNl : N < 2 ^ 64 := by
          rw [← hN]
          split
          · exact pf
          · exact nxF_lt S fo 0 0 (by decide) hfx
        rw [hN] at hnx
        obtain ⟨c, hc⟩ : ∃ c, ((Utf8.decode s q).1 : Int) = c := ⟨_, rfl⟩
        obtain ⟨vl, hvle⟩ : ∃ vl, vs ((Utf8.decode s q).1 : Nat) = vl := ⟨_, rfl⟩
        rw [hvle] at hvc hvl2
        obtain ⟨S', hS'⟩ : ∃ S', rdF (okV vs) c N 0 0 lv = S' := ⟨_, rfl⟩
        have key : (S' = 0 → res = false) ∧ (S' ≠ 0 → runF (okV vs) ⟨lv, fo⟩ p.l S' ((rst s (q + (Utf8.decode s q).2)).map (·.r)) = res) := by
          rcases i3 with ⟨rfl, rfl, rfl⟩ | ⟨rfl, i3⟩
          · rw [if_pos rfl] at hN
            subst hN
            rw [runes, hd, List.map_cons, mtF] at hmt
            simp only [hc, hS'] at hmt
            constructor
            · intro h; rw [hmt, if_pos h]
            · intro h; rw [hmt, if_neg h]
          · rw [if_neg (by decide)] at hN
            rw [hd, List.map_cons, runF] at i3
            simp only [hc, hN, hS'] at i3
            constructor
            · intro h; rw [← i3, if_pos h]
            · intro h; rw [if_neg h] at i3; exact i3
        have hS'l : S' < 2 ^ 64 := by rw [← hS']; exact rdF_lt _ _ _ hl64 (by decide)
        have hrv := rdV_eq vs c N lv
        rw [hS', ← hc, hvle] at hrv
        have hdl : ∀ v : Int, ∀ l : List Rg, l.length ≤ 9223372036854775807 → PureF Tryd.prog 47 [.d (rgs l), I .i32 v] (B (inB l v)) := fun v l h => contains_s l h v
        repeat' (first | (refine k_op1 ?_; (first | refine o_sv rfl (by decide) ?_ | (refine k_blt ?_; (refine o_val (v_lenm rfl) rfl rfl (by decide) ?_)) | (refine k_call ?_; (first | refine o_effd hnx rfl rfl (by decide) ?_ | (refine o_specc [] [] [I .i32 ((Utf8.decode s q).1 : Int)] (hvc.at _) rfl rfl (by decide) ?_) /- o_call -/)) | refine o_next_more hlt rfl rfl (by decide) ?_)) | (refine k_ops ?_; (first | refine o_go (by first | exact .inl rfl | exact .inr ⟨_, _, _, rfl, rfl, rfl⟩) ?_ | refine o_nil ?_)) | (refine k_run ?_; (first | refine r_seq ?_ | refine r_region ?_ | refine r_true rfl ?_ | refine r_skip ?_ | refine r_block ?_)))
        all_goals try (exfalso; omega)
        refine r_loop ?_
        refine r_less (r_inv (fun j : Nat × Nat => ⟨88, [(2, .fn (.func g) [] []), (7, .ptr (0, 26) 0), (8, I .u64 (j.2 : Nat)), (9, B false), (12, I .u64 (N : Nat)), (28, .ptr (0, 28) 0), (38, .d (.slice (vl.map i32c))), (39, I .i64 vl.length), (40, I .i64 (j.1 : Nat))], [(26, tbx lv p.f p.l fo p.nu), (28, .siter s (q + (Utf8.decode s q).2))], H⟩)
          (fun j => j.1 ≤ vl.length ∧ j.2 < 2 ^ 64 ∧ rdV N lv (vl.drop j.1) j.2 = S') (fun j => vl.length - j.1) ?_ (0, 0) ⟨Nat.zero_le _, by decide, hrv⟩) rfl rfl
        rintro ⟨j, A⟩ ⟨m1, m2, m3⟩ ihm
        simp only at m1 m2 m3 ihm ⊢
        by_cases hj : j < vl.length
        · obtain ⟨v, hv⟩ : ∃ v, vl[j]? = some v := ⟨_, List.getElem?_eq_getElem hj⟩
          rw [drop_cons hv, rdV] at m3
          obtain ⟨A', hA'⟩ : ∃ A', rdF (fun c l => inR l c) v N 0 A lv = A' := ⟨_, rfl⟩
          rw [hA'] at m3
          have hvi : (vl.map i32c)[((j : Nat) : Int).toNat]? = some (i32c v) := by simp [hv]
          repeat' (first | (refine k_op1 ?_; (first | refine o_sv rfl (by decide) ?_ | (refine k_load ?_; (first | refine o_val (v_load rfl rfl rfl rfl) rfl rfl (by decide) ?_ | refine o_val (v_loade rfl rfl rfl) rfl rfl (by decide) ?_)) | (refine k_field ?_; (refine o_val (v_field rfl rfl) rfl rfl (by decide) ?_)) | (refine k_index ?_; (refine o_val (v_index (ys := vl.map i32c) rfl (by omega) hvi rfl) rfl rfl (by decide) ?_)) | (refine k_blt ?_; (refine o_val (v_lenm rfl) rfl rfl (by decide) ?_)))) | (refine k_ops ?_; (first | refine o_go (by first | exact .inl rfl | exact .inr ⟨_, _, _, rfl, rfl, rfl⟩) ?_ | refine o_nil ?_)) | (refine k_run ?_; (first | refine r_seq ?_ | refine r_region ?_ | refine r_skip ?_ | refine r_block ?_ | refine r_inBlock ?_ | refine r_if rfl (fun _ => ?_) (fun _ => ?_) | refine r_exit rfl ?_)))
          all_goals try (exfalso; omega)
          refine r_loop ?_
          refine r_less (r_inv (fun k : Nat × Nat => ⟨88, [(2, .fn (.func g) [] []), (7, .ptr (0, 26) 0), (8, I .u64 (k.2 : Nat)), (9, B false), (12, I .u64 (N : Nat)), (14, I .i32 v), (28, .ptr (0, 28) 0), (38, .d (.slice (vl.map i32c))), (39, I .i64 vl.length), (40, I .i64 (j : Nat)), (47, .d (lvs lv)), (48, I .i64 lv.length), (49, I .i64 (k.1 : Nat))], [(26, tbx lv p.f p.l fo p.nu), (28, .siter s (q + (Utf8.decode s q).2))], H⟩)
            (fun k => k.1 ≤ lv.length ∧ k.2 < 2 ^ 64 ∧ rdF (fun c l => inR l c) v N k.1 k.2 (lv.drop k.1) = A') (fun k => lv.length - k.1) ?_ (0, A) ⟨Nat.zero_le _, m2, hA'⟩) rfl rfl
          rintro ⟨k, B'⟩ ⟨n1, n2, n3⟩ ihn
          simp only at n1 n2 n3 ihn ⊢
          by_cases hk : k < lv.length
          · obtain ⟨l, hl⟩ : ∃ l, lv[k]? = some l := ⟨_, List.getElem?_eq_getElem hk⟩
            have hlm := hlv l (List.mem_of_getElem? hl)
            have hcl := hdl v l hlm
            have hli : (lv.map fun r => [rgs r])[((k : Nat) : Int).toNat]? = some [rgs l] := by simp [hl]
            rw [rdF_step _ _ _ hl] at n3
            have hbt := bit64 (S := N) (i := k) hNl (by omega)
            have hsh := shl64 (i := k) (by omega)
            have hp2 : 2 ^ k < 2 ^ 64 := Nat.pow_lt_pow_right (by decide) (by omega)
            have hor := or64 n2 hp2
            rw [← hsh] at hor
            rw [inB_inR] at hcl
            by_cases htb : N.testBit k = true
            · rw [if_pos htb] at hbt
              cases hin : inR l v with
              | true =>
                rw [if_pos ⟨htb, hin⟩] at n3
                rw [hin] at hcl
                have ihn' := ihn (k + 1, B' ||| 2 ^ k) ⟨by simp only; omega, Nat.or_lt_two_pow n2 hp2, n3⟩ (by simp only; omega)
                dsimp only at ihn'
                rw [← hor] at ihn'
                repeat' (first | (refine k_op1 ?_; (first | refine o_sv rfl (by decide) ?_ | (refine k_load ?_; (refine o_val (v_loade rfl rfl rfl) rfl rfl (by decide) ?_)) | (refine k_index ?_; (refine o_val (v_index (ys := lv.map fun r => [rgs r]) rfl (by omega) hli rfl) rfl rfl (by decide) ?_)) | (refine k_bin ?_; (first | refine o_val (v_shr (by omega)) rfl rfl (by decide) ?_ | refine o_val (v_shl (by omega)) rfl rfl (by decide) ?_ | refine o_val v_band rfl rfl (by decide) ?_ | refine o_val v_bor rfl rfl (by decide) ?_ | refine o_val (v_add (wi64 (by omega) (by omega))) rfl rfl (by decide) ?_)) | (refine k_call ?_; (refine o_fn hcl rfl (by decide) ?_)))) | (refine k_ops ?_; (first | refine o_go (by first | exact .inl rfl | exact .inr ⟨_, _, _, rfl, rfl, rfl⟩) ?_ | refine o_nil ?_ | refine o_no rfl rfl (by decide) ?_ | refine o_casep rfl rfl (fun _ => ?_) (fun _ => ?_))) | (refine k_run ?_; (first | refine r_seq ?_ | refine r_region ?_ | refine r_true rfl ?_ | refine r_false rfl ?_ | refine r_skip ?_ | refine r_block ?_ | refine r_inBlock ?_ | refine r_if rfl (fun _ => ?_) (fun _ => ?_) | refine r_exit rfl ?_)))
                all_goals try (exfalso; omega)
                all_goals exact r_less ihn' rfl rfl
              | false =>
                rw [if_neg (fun h => by rw [hin] at h; cases h.2)] at n3
                rw [hin] at hcl
                have ihn' := ihn (k + 1, B') ⟨by simp only; omega, n2, n3⟩ (by simp only; omega)
                repeat' (first | (refine k_op1 ?_; (first | refine o_sv rfl (by decide) ?_ | (refine k_load ?_; (refine o_val (v_loade rfl rfl rfl) rfl rfl (by decide) ?_)) | (refine k_index ?_; (refine o_val (v_index (ys := lv.map fun r => [rgs r]) rfl (by omega) hli rfl) rfl rfl (by decide) ?_)) | (refine k_bin ?_; (first | refine o_val (v_shr (by omega)) rfl rfl (by decide) ?_ | refine o_val v_band rfl rfl (by decide) ?_ | refine o_val (v_add (wi64 (by omega) (by omega))) rfl rfl (by decide) ?_)) | (refine k_call ?_; (refine o_fn hcl rfl (by decide) ?_)))) | (refine k_ops ?_; (first | refine o_go (by first | exact .inl rfl | exact .inr ⟨_, _, _, rfl, rfl, rfl⟩) ?_ | refine o_nil ?_ | refine o_no rfl rfl (by decide) ?_ | refine o_casep rfl rfl (fun _ => ?_) (fun _ => ?_))) | (refine k_run ?_; (first | refine r_seq ?_ | refine r_region ?_ | refine r_false rfl ?_ | refine r_skip ?_ | refine r_block ?_ | refine r_inBlock ?_ | refine r_if rfl (fun _ => ?_) (fun _ => ?_) | refine r_exit rfl ?_)))
                all_goals try (exfalso; omega)
                all_goals exact r_less ihn' rfl rfl
            · rw [if_neg htb] at hbt
              rw [if_neg (fun h => htb h.1)] at n3
              have ihn' := ihn (k + 1, B') ⟨by simp only; omega, n2, n3⟩ (by simp only; omega)
              repeat' (first | (refine k_op1 ?_; (first | refine o_sv rfl (by decide) ?_ | (refine k_load ?_; (refine o_val (v_loade rfl rfl rfl) rfl rfl (by decide) ?_)) | (refine k_index ?_; (refine o_val (v_index (ys := lv.map fun r => [rgs r]) rfl (by omega) hli rfl) rfl rfl (by decide) ?_)) | (refine k_bin ?_; (first | refine o_val (v_shr (by omega)) rfl rfl (by decide) ?_ | refine o_val (v_shl (by omega)) rfl rfl (by decide) ?_ | refine o_val v_band rfl rfl (by decide) ?_ | refine o_val v_bor rfl rfl (by decide) ?_ | refine o_val (v_add (wi64 (by omega) (by omega))) rfl rfl (by decide) ?_)) | (refine k_call ?_; (refine o_fn hcl rfl (by decide) ?_)))) | (refine k_ops ?_; (first | refine o_go (by first | exact .inl rfl | exact .inr ⟨_, _, _, rfl, rfl, rfl⟩) ?_ | refine o_nil ?_ | refine o_no rfl rfl (by decide) ?_ | refine o_casep rfl rfl (fun _ => ?_) (fun _ => ?_))) | (refine k_run ?_; (first | refine r_seq ?_ | refine r_region ?_ | refine r_false rfl ?_ | refine r_skip ?_ | refine r_block ?_ | refine r_inBlock ?_ | refine r_if rfl (fun _ => ?_) (fun _ => ?_) | refine r_cond rfl (fun _ => ?_) (fun _ => ?_) | refine r_exit rfl ?_)))
              all_goals try (exfalso; omega)
              all_goals exact r_less ihn' rfl rfl
          · obtain rfl : k = lv.length := by omega
            rw [List.drop_length, rdF] at n3
            subst n3
            have ihm' := ihm (j + 1, B') ⟨by simp only; omega, n2, m3⟩ (by simp only; omega)
            repeat' (first | (refine k_op1 ?_; (first | refine o_sv rfl (by decide) ?_ | (refine k_bin ?_; (refine o_val (v_add (wi64 (by omega) (by omega))) rfl rfl (by decide) ?_)))) | (refine k_ops ?_; (first | refine o_go (by first | exact .inl rfl | exact .inr ⟨_, _, _, rfl, rfl, rfl⟩) ?_ | refine o_nil ?_)) | (refine k_run ?_; (first | refine r_seq ?_ | refine r_region ?_ | refine r_skip ?_ | refine r_block ?_ | refine r_inBlock ?_ | refine r_if rfl (fun _ => ?_) (fun _ => ?_) | refine r_exit rfl ?_)))
            all_goals try (exfalso; omega)
            all_goals exact r_less ihm' rfl rfl
        · obtain rfl : j = vl.length := by omega
          rw [List.drop_length, rdV] at m3
          subst m3
          by_cases hA : A = 0
          · subst hA
            have hr := key.1 rfl
            subst hr
            repeat' (first | (refine k_op1 ?_; (refine o_sv rfl (by decide) ?_)) | (refine k_ops ?_; (first | refine o_go (by first | exact .inl rfl | exact .inr ⟨_, _, _, rfl, rfl, rfl⟩) ?_ | refine o_nil ?_)) | (refine k_run ?_; (first | refine r_seq ?_ | refine r_region ?_ | refine r_true rfl ?_ | refine r_skip ?_ | refine r_block ?_ | refine r_if rfl (fun _ => ?_) (fun _ => ?_) | refine r_exit rfl ?_)))
            all_goals try (exfalso; omega)
            all_goals exact r_ret Tryd.func34 _ (res_one rfl rfl) ⟨rfl, rfl⟩
          · have hr := key.2 hA
            have ih' := ih (q + (Utf8.decode s q).2, A, false) ⟨by simp only; omega, m2, .inr ⟨rfl, hr⟩⟩ (by simp only; omega)
            repeat' (first | (refine k_op1 ?_; (refine o_sv rfl (by decide) ?_)) | (refine k_ops ?_; (first | refine o_go (by first | exact .inl rfl | exact .inr ⟨_, _, _, rfl, rfl, rfl⟩) ?_ | refine o_nil ?_)) | (refine k_run ?_; (first | refine r_seq ?_ | refine r_region ?_ | refine r_skip ?_ | refine r_block ?_ | refine r_inBlock ?_ | refine r_if rfl (fun _ => ?_) (fun _ => ?_) | refine r_exit rfl ?_)))
            all_goals try (exfalso; omega)
            all_goals exact r_less ih' rfl rfl
      · obtain rfl : q = s.size := by omega
        have hd := rst_ge (s := s) (i := s.size) (Nat.le_refl _)
        rcases i3 with ⟨rfl, h0q, rfl⟩ | ⟨rfl, i3⟩
        · have hz : rst s 0 = [] := rst_ge (by omega)
          rw [runes, hz, List.map_nil, mtF] at hmt
          subst hmt
          cases hnu : p.nu with
          | true =>
            repeat' (first | (refine k_op1 ?_; (first | refine o_sv rfl (by decide) ?_ | (refine k_load ?_; (refine o_val (v_load rfl rfl rfl rfl) rfl rfl (by decide) ?_)) | (refine k_field ?_; (refine o_val (v_field rfl rfl) rfl rfl (by decide) ?_)) | refine o_next_over hlt rfl rfl (by decide) ?_)) | (refine k_ops ?_; (first | refine o_go (by first | exact .inl rfl | exact .inr ⟨_, _, _, rfl, rfl, rfl⟩) ?_ | refine o_nil ?_ | refine o_no rfl rfl (by decide) ?_)) | (refine k_run ?_; (first | refine r_seq ?_ | refine r_region ?_ | refine r_false rfl ?_ | refine r_exit rfl ?_)))
            all_goals try (exfalso; omega)
            all_goals exact r_ret Tryd.func34 _ (res_one rfl rfl) ⟨rfl, rfl⟩
          | false =>
            have ha := and64 (a := 0) (b := p.l) (by decide) pl
            rw [Nat.zero_and] at ha
            have hfin : (!decide (andV .u64 ((0 : Nat) : Int) (p.l : Nat) = 0)) = false := by rw [ha]; rfl
            repeat' (first | (refine k_op1 ?_; (first | refine o_sv rfl (by decide) ?_ | (refine k_load ?_; (refine o_val (v_load rfl rfl rfl rfl) rfl rfl (by decide) ?_)) | (refine k_field ?_; (refine o_val (v_field rfl rfl) rfl rfl (by decide) ?_)) | (refine k_bin ?_; (refine o_val v_band rfl rfl (by decide) ?_)) | refine o_next_over hlt rfl rfl (by decide) ?_)) | (refine k_ops ?_; (first | refine o_go (by first | exact .inl rfl | exact .inr ⟨_, _, _, rfl, rfl, rfl⟩) ?_ | refine o_nil ?_)) | (refine k_run ?_; (first | refine r_seq ?_ | refine r_region ?_ | refine r_false rfl ?_ | refine r_exit rfl ?_)))
            all_goals try (exfalso; omega)
            all_goals exact r_ret Tryd.func34 _ (res_one rfl rfl) ⟨congrArg (fun b => RV.v (B b)) hfin, rfl⟩
        · rw [hd, List.map_nil, runF] at i3
          have ha := and64 i2 pl
          have hfin : (!decide (andV .u64 (S : Nat) (p.l : Nat) = 0)) = res := by
            rw [ha, ← i3, ← decide_not, decide_eq_decide]; omega
          repeat' (first | (refine k_op1 ?_; (first | refine o_sv rfl (by decide) ?_ | (refine k_load ?_; (refine o_val (v_load rfl rfl rfl rfl) rfl rfl (by decide) ?_)) | (refine k_field ?_; (refine o_val (v_field rfl rfl) rfl rfl (by decide) ?_)) | (refine k_bin ?_; (refine o_val v_band rfl rfl (by decide) ?_)) | refine o_next_over hlt rfl rfl (by decide) ?_)) | (refine k_ops ?_; (first | refine o_go (by first | exact .inl rfl | exact .inr ⟨_, _, _, rfl, rfl, rfl⟩) ?_ | refine o_nil ?_ | refine o_no rfl rfl (by decide) ?_)) | (refine k_run ?_; (first | refine r_seq ?_ | refine r_region ?_ | refine r_false rfl ?_ | refine r_exit rfl ?_)))
          all_goals try (exfalso; omega)
          all_goals exact r_ret Tryd.func34 _ (res_one rfl rfl) ⟨congrArg (fun b => RV.v (B b)) hfin, rfl⟩
  · have hne : (decide (val e = 0)) = false := decide_eq_false h0
    rw [hne, Bool.false_and, Bool.false_and] at hmt
    subst hmt
    obtain ⟨op, mn, mx, rs, ks⟩ := e
    rw [Drx_mk] at hval ⊢
    refine spec_of Tryd.func34 (by kernel_rfl) rfl (by simp) ?_
    dsimp only [Tryd.f34]
    repeat' (first | (refine k_op1 ?_; (first | refine o_sv rfl (by decide) ?_ | (refine k_load ?_; (refine o_val (v_loada rfl rfl rfl) rfl rfl (by decide) ?_)) | (refine k_call ?_; (first | refine o_fn hval rfl (by decide) ?_ | refine o_fn hvd rfl (by decide) ?_)) | (refine k_box ?_; (refine o_does (d_box_d rfl rfl (by decide)) ?_)))) | (refine k_ops ?_; (first | refine o_go (by first | exact .inl rfl | exact .inr ⟨_, _, _, rfl, rfl, rfl⟩) ?_ | refine o_nil ?_ | refine o_no rfl rfl (by decide) ?_ | refine o_casen rfl rfl (fun _ => ?_) (fun _ => ?_))) | (refine k_run ?_; (first | refine r_seq ?_ | refine r_region ?_ | refine r_true rfl ?_ | refine r_skip ?_ | refine r_cond rfl (fun _ => ?_) (fun _ => ?_))))
    all_goals try (exfalso; omega)
    all_goals exact r_ret Tryd.func34 _ (res_one rfl rfl) ⟨rfl, rfl⟩
end Go.Proofs.YtjmbjgecfpggdaaDoor
namespace Go.Proofs.YtjmbjgecfpggdaaDoor
open Go.Ab Go.Rx
set_option maxHeartbeats 20000000
set_option maxRecDepth 100000
set_option linter.unusedVariables false
set_option linter.unusedSimpArgs false
set_option linter.unusedSectionVars false
attribute [local irreducible] Run Ops Op1 Does Val Tr PureF Eff1 NF Rel EffV EffM EffN
theorem self_s (c : Int) : PureF Tryd.prog 36 [I .i32 c] (.d (.slice (([c] : List Int).map i32c))) := by
  refine pure_of fun H => ?_
  refine spec_of Tryd.func36 (by kernel_rfl) rfl (by simp) ?_
  dsimp only [Tryd.f36]
  repeat' (first | (refine k_op1 ?_; (first | refine o_sv rfl (by decide) ?_ | (refine k_lit ?_; (refine o_lit rfl rfl rfl rfl rfl rfl rfl rfl (by decide) ?_)))) | (refine k_ops ?_; (first | refine o_go (by first | exact .inl rfl | exact .inr ⟨_, _, _, rfl, rfl, rfl⟩) ?_ | refine o_nil ?_)) | (refine k_run ?_; (first | refine r_seq ?_ | refine r_region ?_)))
  all_goals exact r_ret Tryd.func36 _ (res_one rfl rfl) ⟨rfl, rfl⟩
theorem enc_size (v : Int) : (Utf8.encode v).size ≤ 4 := by
  have := btN_len (Utf8.encode v)
  rw [btN_enc] at this
  have h4 : (ecL (fixI v)).length ≤ 4 := by
    unfold ecL
    repeat' split
    all_goals simp
  omega
theorem rst_one {t : ByteArray} {u : U} (h : rst t 0 = [u]) : 0 < t.size ∧ ((Utf8.decode t 0).1 : Int) = u.r ∧ (Utf8.decode t 0).2 = t.size := by
  have h0 : 0 < t.size := by
    false_or_by_contra
    rw [rst_ge (by omega)] at h; simp at h
  rw [rst_lt h0] at h
  simp only [List.cons.injEq] at h
  obtain ⟨rfl, h2⟩ := h
  have hw := dec_w t 0 h0
  rw [rst_nil (by omega)] at h2
  exact ⟨h0, rfl, by omega⟩
def C3 (x : Int) : List Int := [x, x - 32, x - 80]
theorem variants_s (c : Int) (hc : Utf8.valid c = true) : PureF Tryd.prog 35 [I .i32 c] (.d (.slice ((varF c).map i32c))) := by
  refine pure_of fun H => ?_
  have hse := enc_size c
  have hfo := fold_s (Utf8.encode c) (by omega)
  have hfe := fold_enc_valid hc
  have hvl := valid_low hc
  have hre := rst_enc (lowF c)
  rw [fixI_of hvl, ← hfe] at hre
  obtain ⟨t, ht⟩ : ∃ t, foldS (Utf8.encode c) = t := ⟨_, rfl⟩
  have hvar : varF c = ([lowF c, lowF c - 32, lowF c - 80] : List Int).filter fun v => decide (0 ≤ v) && decide (foldS (Utf8.encode v) = t) := by rw [← ht]; rfl
  rw [ht] at hfo hre
  obtain ⟨d0, d1, d2⟩ := rst_one hre
  simp only at d1
  have hvb := valid_iff.1 hvl
  obtain ⟨r, hr⟩ : ∃ r, lowF c = r := ⟨_, rfl⟩
  rw [hr] at d1 hvb hvar
  have hcs : [r, r - 32, r - 80] = C3 r := rfl
  obtain ⟨kp, hkp⟩ : ∃ kp : Int → Bool, (fun v : Int => decide (0 ≤ v) && decide (foldS (Utf8.encode v) = t)) = kp := ⟨_, rfl⟩
  rw [hcs, hkp] at hvar
  refine spec_of Tryd.func35 (by kernel_rfl) rfl (by simp) ?_
  dsimp only [Tryd.f35]
  repeat' (first | (refine k_op1 ?_; (first | refine o_sv rfl (by decide) ?_ | (refine k_call ?_; (refine o_fn hfo rfl (by decide) ?_)) | (refine k_conv ?_; (refine o_val (v_strune rfl rfl) rfl rfl (by decide) ?_)) | refine o_range rfl rfl rfl (by decide) ?_)) | (refine k_ops ?_; (first | refine o_go (by first | exact .inl rfl | exact .inr ⟨_, _, _, rfl, rfl, rfl⟩) ?_ | refine o_nil ?_)) | (refine k_run ?_; (first | refine r_seq ?_ | refine r_region ?_ | refine r_block ?_)))
  all_goals try (exfalso; omega)
  refine r_slot_row 3 1000 21 1 rfl rfl rfl ?_
  refine r_loop ?_
  refine r_less (r_inv (fun q : Nat × List Int => ⟨43, [(3, .ref (0, 1000)), (4, S t), (13, .ptr (0, 13) 0)], [(13, .siter t q.1), (1000, .row 21 1 (q.2.map i32c))], H⟩)
    (fun q => (q.1 = 0 ∧ q.2 = []) ∨ (q.1 = t.size ∧ q.2 = varF c)) (fun q => t.size - q.1) ?_ (0, []) (.inl ⟨rfl, rfl⟩)) rfl rfl
  rintro ⟨q, l⟩ i1 ih
  simp only at i1 ih ⊢
  rcases i1 with ⟨rfl, rfl⟩ | ⟨rfl, rfl⟩
  · repeat' (first | (refine k_op1 ?_; (first | refine o_sv rfl (by decide) ?_ | (refine k_bin ?_; (refine o_val (v_sub (wi32 (by omega) (by omega))) rfl rfl (by decide) ?_)) | (refine k_blt ?_; (refine o_val (v_len rfl) rfl rfl (by decide) ?_)) | (refine k_lit ?_; (refine o_lit rfl rfl rfl rfl rfl rfl rfl rfl (by decide) ?_)) | refine o_next_more d0 rfl rfl (by decide) ?_)) | (refine k_ops ?_; (first | refine o_go (by first | exact .inl rfl | exact .inr ⟨_, _, _, rfl, rfl, rfl⟩) ?_ | refine o_nil ?_)) | (refine k_run ?_; (first | refine r_seq ?_ | refine r_region ?_ | refine r_true rfl ?_ | refine r_skip ?_ | refine r_block ?_)))
    all_goals try (exfalso; omega)
    subst d1
    have hl3 : (C3 ((Utf8.decode t 0).1 : Nat)).length = 3 := rfl
    refine r_loop ?_
    refine r_less (r_inv (fun k : Nat × List Int => ⟨43, [(3, .ref (0, 1000)), (4, S t), (13, .ptr (0, 13) 0), (22, .d (.slice ((C3 ((Utf8.decode t 0).1 : Nat)).map i32c))), (23, I .i64 3), (24, I .i64 (k.1 : Nat))], [(13, .siter t t.size), (1000, .row 21 1 (k.2.map i32c))], H⟩)
      (fun k => k.1 ≤ 3 ∧ k.2 = ((C3 ((Utf8.decode t 0).1 : Nat)).take k.1).filter kp) (fun k => 3 - k.1) ?_ (0, []) ⟨Nat.zero_le _, rfl⟩) rfl (by rw [Nat.zero_add, d2]; rfl)
    rintro ⟨k, l⟩ ⟨m1, m2⟩ ihk
    simp only at m1 m2 ihk ⊢
    by_cases hk : k < 3
    · obtain ⟨v, hv⟩ : ∃ v, (C3 ((Utf8.decode t 0).1 : Nat))[k]? = some v := ⟨_, List.getElem?_eq_getElem (by omega)⟩
      have hvi : ((C3 ((Utf8.decode t 0).1 : Nat)).map i32c)[((k : Nat) : Int).toNat]? = some (i32c v) := by simp [hv]
      have hve := enc_size v
      have hfv := fold_s (Utf8.encode v) (by omega)
      have hst := take_succ' hv
      have hkv : kp v = (decide (0 ≤ v) && decide (foldS (Utf8.encode v) = t)) := by rw [← hkp]
      have hll : l.length ≤ 3 := by
        rw [m2]
        have := List.length_filter_le kp ((C3 ((Utf8.decode t 0).1 : Nat)).take k)
        rw [List.length_take] at this; omega
      cases hkk : kp v with
      | true =>
        rw [hkk] at hkv
        have hkv' := hkv.symm
        rw [Bool.and_eq_true, decide_eq_true_eq, decide_eq_true_eq] at hkv'
        have ihk' := ihk (k + 1, l ++ [v]) ⟨by simp only; omega, by simp only; rw [hst, List.filter_append, m2]; simp [hkk]⟩ (by simp only; omega)
        repeat' (first | (refine k_op1 ?_; (first | refine o_sv rfl (by decide) ?_ | (refine k_load ?_; (refine o_val (v_loade rfl rfl rfl) rfl rfl (by decide) ?_)) | (refine k_index ?_; (refine o_val (v_index (ys := (C3 ((Utf8.decode t 0).1 : Nat)).map i32c) rfl (by omega) hvi rfl) rfl rfl (by decide) ?_)) | (refine k_bin ?_; (refine o_val (v_add (wi64 (by omega) (by omega))) rfl rfl (by decide) ?_)) | (refine k_blt ?_; (refine o_app1 (g := i32c) rfl rfl v rfl rfl rfl rfl rfl rfl rfl (by decide) (by omega) ?_)) | (refine k_call ?_; (refine o_fn hfv rfl (by decide) ?_)) | (refine k_lit ?_; (refine o_lit rfl rfl rfl rfl rfl rfl rfl rfl (by decide) ?_)) | (refine k_conv ?_; (refine o_val (v_strune rfl rfl) rfl rfl (by decide) ?_)))) | (refine k_ops ?_; (first | refine o_go (by first | exact .inl rfl | exact .inr ⟨_, _, _, rfl, rfl, rfl⟩) ?_ | refine o_nil ?_ | refine o_no rfl rfl (by decide) ?_ | refine o_casep rfl rfl (fun _ => ?_) (fun _ => ?_))) | (refine k_run ?_; (first | refine r_seq ?_ | refine r_region ?_ | refine r_false rfl ?_ | refine r_skip ?_ | refine r_block ?_ | refine r_inBlock ?_ | refine r_if rfl (fun _ => ?_) (fun _ => ?_) | refine r_exit rfl ?_)))
        all_goals try (exfalso; first | omega | exact absurd hkv'.2 (by assumption))
        all_goals refine r_ren 40 1000 rfl rfl ?_
        all_goals exact r_less ihk' rfl rfl
      | false =>
        rw [hkk] at hkv
        have hkn : ¬ (0 ≤ v ∧ foldS (Utf8.encode v) = t) := fun h => by
          rw [decide_eq_true h.1, decide_eq_true h.2] at hkv; cases hkv
        have ihk' := ihk (k + 1, l) ⟨by simp only; omega, by simp only; rw [hst, List.filter_append, m2]; simp [hkk]⟩ (by simp only; omega)
        repeat' (first | (refine k_op1 ?_; (first | refine o_sv rfl (by decide) ?_ | (refine k_load ?_; (refine o_val (v_loade rfl rfl rfl) rfl rfl (by decide) ?_)) | (refine k_index ?_; (refine o_val (v_index (ys := (C3 ((Utf8.decode t 0).1 : Nat)).map i32c) rfl (by omega) hvi rfl) rfl rfl (by decide) ?_)) | (refine k_bin ?_; (refine o_val (v_add (wi64 (by omega) (by omega))) rfl rfl (by decide) ?_)) | (refine k_blt ?_; (refine o_app1 (g := i32c) rfl rfl v rfl rfl rfl rfl rfl rfl rfl (by decide) (by omega) ?_)) | (refine k_call ?_; (refine o_fn hfv rfl (by decide) ?_)) | (refine k_lit ?_; (refine o_lit rfl rfl rfl rfl rfl rfl rfl rfl (by decide) ?_)) | (refine k_conv ?_; (refine o_val (v_strune rfl rfl) rfl rfl (by decide) ?_)))) | (refine k_ops ?_; (first | refine o_go (by first | exact .inl rfl | exact .inr ⟨_, _, _, rfl, rfl, rfl⟩) ?_ | refine o_nil ?_ | refine o_no rfl rfl (by decide) ?_ | refine o_casep rfl rfl (fun _ => ?_) (fun _ => ?_))) | (refine k_run ?_; (first | refine r_seq ?_ | refine r_region ?_ | refine r_false rfl ?_ | refine r_skip ?_ | refine r_block ?_ | refine r_inBlock ?_ | refine r_if rfl (fun _ => ?_) (fun _ => ?_) | refine r_exit rfl ?_)))
        all_goals try (exfalso; first | omega | exact hkn ⟨by assumption, by assumption⟩)
        all_goals exact r_less ihk' rfl rfl
    · obtain rfl : k = 3 := by omega
      have m3 : l = varF c := by rw [m2, hvar]; rfl
      subst m3
      have ih' := ih (t.size, varF c) (.inr ⟨rfl, rfl⟩) (by simp only; omega)
      repeat' (first | (refine k_op1 ?_; (refine o_sv rfl (by decide) ?_)) | (refine k_ops ?_; (first | refine o_go (by first | exact .inl rfl | exact .inr ⟨_, _, _, rfl, rfl, rfl⟩) ?_ | refine o_nil ?_)) | (refine k_run ?_; (first | refine r_seq ?_ | refine r_region ?_ | refine r_false rfl ?_ | refine r_inBlock ?_ | refine r_exit rfl ?_)))
      all_goals try (exfalso; omega)
      all_goals exact r_less ih' rfl rfl
  · repeat' (first | (refine k_op1 ?_; (first | refine o_sv rfl (by decide) ?_ | refine o_next_over (Nat.lt_irrefl _) rfl rfl (by decide) ?_)) | (refine k_ops ?_; (first | refine o_go (by first | exact .inl rfl | exact .inr ⟨_, _, _, rfl, rfl, rfl⟩) ?_ | refine o_nil ?_)) | (refine k_run ?_; (first | refine r_seq ?_ | refine r_region ?_ | refine r_false rfl ?_ | refine r_exit rfl ?_)))
    all_goals try (exfalso; omega)
    refine r_freeze 1000 rfl ?_
    skip
    all_goals try (exfalso; omega)
    all_goals exact r_ret Tryd.func35 _ (res_one rfl rfl) ⟨rfl, rfl⟩
theorem match1_s (e : Rx) (hf : fit e) (s : ByteArray) (hs : s.size ≤ 1000000) : PureF Tryd.prog 17 [.d (Drx e), S s] (B (mtS (fun c => [c]) e s)) := by
  have hm := match_s 36 (fun c => [c]) (fun c _ => self_s c) (fun c => by simp) e hf s hs
  obtain ⟨b, hb⟩ : ∃ b, mtS (fun c => [c]) e s = b := ⟨_, rfl⟩
  rw [hb] at hm ⊢
  obtain ⟨op, mn, mx, rs, ks⟩ := e
  rw [Drx_mk] at hm ⊢
  refine pure_of fun H => ?_
  refine spec_of Tryd.func17 (by kernel_rfl) rfl (by simp) ?_
  dsimp only [Tryd.f17]
  repeat' (first | (refine k_op1 ?_; (first | refine o_sv rfl (by decide) ?_ | (refine k_load ?_; (refine o_val (v_loada rfl rfl rfl) rfl rfl (by decide) ?_)) | (refine k_call ?_; (refine o_fn hm rfl (by decide) ?_)) | (refine k_box ?_; (refine o_does (d_box_d rfl rfl (by decide)) ?_)))) | (refine k_ops ?_; (first | refine o_go (by first | exact .inl rfl | exact .inr ⟨_, _, _, rfl, rfl, rfl⟩) ?_ | refine o_nil ?_)) | (refine k_run ?_; (first | refine r_seq ?_ | refine r_region ?_)))
  all_goals exact r_ret Tryd.func17 _ (res_one rfl rfl) ⟨rfl, rfl⟩
theorem varF_len (c : Int) : (varF c).length ≤ 3 := List.length_filter_le _ _
theorem matchF_s (e : Rx) (hf : fit e) (s : ByteArray) (hs : s.size ≤ 1000000) : PureF Tryd.prog 16 [.d (Drx e), S s] (B (mtS varF e s)) := by
  have hm := match_s 35 varF variants_s varF_len e hf s hs
  obtain ⟨b, hb⟩ : ∃ b, mtS varF e s = b := ⟨_, rfl⟩
  rw [hb] at hm ⊢
  obtain ⟨op, mn, mx, rs, ks⟩ := e
  rw [Drx_mk] at hm ⊢
  refine pure_of fun H => ?_
  refine spec_of Tryd.func16 (by kernel_rfl) rfl (by simp) ?_
  dsimp only [Tryd.f16]
  repeat' (first | (refine k_op1 ?_; (first | refine o_sv rfl (by decide) ?_ | (refine k_load ?_; (refine o_val (v_loada rfl rfl rfl) rfl rfl (by decide) ?_)) | (refine k_call ?_; (refine o_fn hm rfl (by decide) ?_)) | (refine k_box ?_; (refine o_does (d_box_d rfl rfl (by decide)) ?_)))) | (refine k_ops ?_; (first | refine o_go (by first | exact .inl rfl | exact .inr ⟨_, _, _, rfl, rfl, rfl⟩) ?_ | refine o_nil ?_)) | (refine k_run ?_; (first | refine r_seq ?_ | refine r_region ?_)))
  all_goals exact r_ret Tryd.func16 _ (res_one rfl rfl) ⟨rfl, rfl⟩
end Go.Proofs.YtjmbjgecfpggdaaDoor
namespace Go.Proofs.YtjmbjgecfpggdaaDoor
open Go.Ab Go.Rx
set_option maxHeartbeats 20000000
set_option maxRecDepth 100000
set_option linter.unusedVariables false
set_option linter.unusedSimpArgs false
set_option linter.unusedSectionVars false
attribute [local irreducible] Run Ops Op1 Does Val Tr PureF Eff1 NF Rel EffV EffM EffN
theorem posi_s (e : Rx) (hf : fit e) : PureF Tryd.prog 29 [.d (Drx e)] (I .i64 (if val e = 0 then ps 65 e else 0)) := by
  refine pure_of fun H => ?_
  have hval := validate_s e hf
  by_cases h0 : val e = 0
  · have hpo := positions_s e hf (val_vns h0)
    rw [h0] at hval
    rw [if_pos h0]
    obtain ⟨op, mn, mx, rs, ks⟩ := e
    rw [Drx_mk] at hval hpo ⊢
    refine spec_of Tryd.func29 (by kernel_rfl) rfl (by simp) ?_
    dsimp only [Tryd.f29]
    repeat' (first | (refine k_op1 ?_; (first | refine o_sv rfl (by decide) ?_ | (refine k_load ?_; (refine o_val (v_loada rfl rfl rfl) rfl rfl (by decide) ?_)) | (refine k_call ?_; (first | refine o_fn hval rfl (by decide) ?_ | refine o_fn hpo rfl (by decide) ?_)) | (refine k_box ?_; (refine o_does (d_box_d rfl rfl (by decide)) ?_)))) | (refine k_ops ?_; (first | refine o_go (by first | exact .inl rfl | exact .inr ⟨_, _, _, rfl, rfl, rfl⟩) ?_ | refine o_nil ?_)) | (refine k_run ?_; (first | refine r_seq ?_ | refine r_region ?_ | refine r_false rfl ?_ | refine r_skip ?_)))
    all_goals try (exfalso; omega)
    all_goals exact r_ret Tryd.func29 _ (res_one rfl rfl) ⟨rfl, rfl⟩
  · rw [if_neg h0]
    obtain ⟨op, mn, mx, rs, ks⟩ := e
    rw [Drx_mk] at hval ⊢
    refine spec_of Tryd.func29 (by kernel_rfl) rfl (by simp) ?_
    dsimp only [Tryd.f29]
    repeat' (first | (refine k_op1 ?_; (first | refine o_sv rfl (by decide) ?_ | (refine k_load ?_; (refine o_val (v_loada rfl rfl rfl) rfl rfl (by decide) ?_)) | (refine k_call ?_; (refine o_fn hval rfl (by decide) ?_)) | (refine k_box ?_; (refine o_does (d_box_d rfl rfl (by decide)) ?_)))) | (refine k_ops ?_; (first | refine o_go (by first | exact .inl rfl | exact .inr ⟨_, _, _, rfl, rfl, rfl⟩) ?_ | refine o_nil ?_)) | (refine k_run ?_; (first | refine r_seq ?_ | refine r_region ?_ | refine r_skip ?_ | refine r_ifn rfl (fun _ => ?_) (fun _ => ?_))))
    all_goals try (exfalso; omega)
    all_goals exact r_ret Tryd.func29 _ (res_one rfl rfl) ⟨rfl, rfl⟩
abbrev lit1 (c : Int) : Rx := .mk 1 0 0 [(c, c)] []
abbrev X2 : Rx := .mk 2 0 0 [] [.mk 4 2 5 [] [.mk 2 0 0 [] [lit1 97, lit1 98]], lit1 99]
abbrev s1 : ByteArray := ⟨#[97, 123, 51, 44, 50, 125]⟩
abbrev s2 : ByteArray := ⟨#[40, 97, 98, 41, 123, 50, 44, 53, 125, 99]⟩
abbrev s3 : ByteArray := ⟨#[195, 137]⟩
theorem par1 : parseS s1 = (nil0, 4, 8) := by rfl
theorem par2 : parseS s2 = (X2, 0, 0) := by rfl
theorem par3 : parseS s3 = (lit1 201, 0, 0) := by rfl
theorem fitX2 : fit X2 := by simp [fit, fitL]
theorem fitL1 : fit (lit1 201) := by simp [fit, fitL]
theorem tabs_back {H : Hf} {A B : Blk} (h0 : H 0 700 = some A) (h1 : H 0 701 = some B) : upd (upd (upd (upd H (0, 700) .gone) (0, 701) .gone) (0, 700) A) (0, 701) B = H := by
  funext d s
  simp only [upd]
  by_cases a : d = 0 ∧ s = 701
  · rw [if_pos a, a.1, a.2, h1]
  rw [if_neg a]
  by_cases b : d = 0 ∧ s = 700
  · rw [if_pos b, b.1, b.2, h0]
  · rw [if_neg b, if_neg a, if_neg b]
theorem awake_s (τ : Tab) : Eff1 Tryd.prog 12 [] (tabs τ 0) [] (B true) := by
  refine eff_of fun H hH => ?_
  have hX0 := hH ((0, 700), .glob 0 τ.o0) (by simp)
  have hX1 := hH ((0, 701), .glob 1 τ.o1) (by simp)
  have p1 := parse_s τ s1 (by decide)
  have p2 := parse_s τ s2 (by decide)
  have p3 := parse_s τ s3 (by decide)
  rw [par1] at p1
  rw [par2] at p2
  rw [par3] at p3
  have q1 := posi_s X2 fitX2
  have q2 := match1_s X2 fitX2 ⟨#[97, 98, 97, 98, 99]⟩ (by decide)
  have q3 := matchF_s (lit1 201) fitL1 ⟨#[195, 169]⟩ (by decide)
  have q4 := match1_s (lit1 201) fitL1 ⟨#[195, 169]⟩ (by decide)
  rw [show (if val X2 = 0 then ps 65 X2 else 0) = 11 by rfl] at q1
  rw [show mtS (fun c => [c]) X2 ⟨#[97, 98, 97, 98, 99]⟩ = true by rfl] at q2
  rw [show mtS varF (lit1 201) ⟨#[195, 169]⟩ = true by rfl] at q3
  rw [show mtS (fun c => [c]) (lit1 201) ⟨#[195, 169]⟩ = false by rfl] at q4
  refine spec_of Tryd.func12 (by kernel_rfl) rfl (by simp) ?_
  dsimp only [Tryd.f12]
  refine r_take 700 0 700 hX0 rfl rfl ?_
  refine r_take 701 0 701 (upd_ne hX1 (by simp)) rfl rfl ?_
  repeat' (first | (refine k_op1 ?_; (first | refine o_sv rfl (by decide) ?_ | (refine k_load ?_; (refine o_val (v_loadp rfl rfl rfl rfl) rfl rfl (by decide) ?_)) | (refine k_call ?_; (first | refine o_effd p3 rfl rfl (by decide) ?_ | refine o_effd p2 rfl rfl (by decide) ?_ | refine o_effd p1 rfl rfl (by decide) ?_ | refine o_fn q1 rfl (by decide) ?_ | refine o_fn q2 rfl (by decide) ?_ | refine o_fn q3 rfl (by decide) ?_ | refine o_fn q4 rfl (by decide) ?_)) | (refine k_store ?_; (refine o_store0 rfl rfl rfl rfl rfl rfl ?_)) | (refine k_alloc ?_; (refine o_does (d_alloc rfl rfl (by decide)) ?_)))) | (refine k_ops ?_; (first | refine o_go (by first | exact .inl rfl | exact .inr ⟨_, _, _, rfl, rfl, rfl⟩) ?_ | refine o_nil ?_)) | (refine k_run ?_; (first | refine r_seq ?_ | refine r_region ?_)))
  all_goals try (exfalso; first | omega | (simp at *; done))
  all_goals refine r_give 700 0 700 (raw := .glob 0 τ.o0) rfl rfl (upd_ne (upd_same _ (0, 700) _) (by simp)) rfl rfl ?_
  all_goals refine r_give 701 0 701 (raw := .glob 1 τ.o1) rfl rfl (upd_ne (upd_same _ (0, 701) _) (by simp)) rfl rfl ?_
  all_goals exact r_ret Tryd.func12 _ (res_one rfl rfl) ⟨rfl, tabs_back hX0 hX1⟩
end Go.Proofs.YtjmbjgecfpggdaaDoor
