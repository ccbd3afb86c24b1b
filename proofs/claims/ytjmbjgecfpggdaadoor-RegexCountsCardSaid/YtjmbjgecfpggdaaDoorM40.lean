/- A part of the proof: G40. -/
import Derived.Test.YtjmbjgecfpggdaaDoorM38
import Derived.Test.YtjmbjgecfpggdaaDoorMX20
set_option linter.all false
set_option linter.unusedVariables false
set_option linter.unusedSimpArgs false
namespace Go.Proofs.YtjmbjgecfpggdaaDoor
open Go.Ab Go.Rx
set_option maxHeartbeats 20000000
set_option maxRecDepth 100000
set_option linter.unusedVariables false
set_option linter.unusedSimpArgs false
set_option linter.unusedSectionVars false
attribute [local irreducible] Run Ops Op1 Does Val Tr PureF Eff1 NF Rel EffV EffM EffN
abbrev self1 : Int → List Int := fun c => [c]
theorem counts_s (τ : Tab) (e : Rx) (hf : fit e) (m : Int) (hm : 0 ≤ m ∧ m ≤ 255) (s : ByteArray) : Eff1 Tryd.prog 6 [.d (Drx e), I .u8 m, S s] (tabs τ 0) [] (B true) := by
  refine eff_of fun H hH => ?_
  have hX0 := hH ((0, 700), .glob 0 τ.o0) (by simp)
  have hX1 := hH ((0, 701), .glob 1 τ.o1) (by simp)
  have hfl : fitL [e] := by rw [fitL]; exact ⟨hf, by rw [fitL]; trivial⟩
  have hfr : ∀ mn mx, fit (rpt mn mx e) := fun mn mx => by rw [fit]; exact ⟨by simp, by simp, hfl⟩
  have hb := big_s [e] hfl (by simp)
  have ha := awake_s τ
  have hm0 : ([e] : List Rx).map rxc = [rxc e] := rfl
  have hbe : bigL [e] = (lg e 600).1 := by rw [bigL, List.any_cons, List.any_nil, Bool.or_false]
  have hsz := lg_sz.1 e 600
  rw [hbe] at hb
  have hn := fun h => nested_s [e] hfl (by simp) (fun x hx => by simp only [List.mem_singleton] at hx; subst hx; have := hsz h; omega)
  rw [hm0] at hb hn
  generalize nestL [e] = nb at hn
  have hV := validate_s e hf
  have hVr := fun mn mx => validate_s (rpt mn mx e) (hfr mn mx)
  have hMr := fun mn mx (h : s.size ≤ 1000000) => match1_s (rpt mn mx e) (hfr mn mx) s h
  have hDr : ∀ mn mx, Drx (rpt mn mx e) = .agg [Dint 4, Dint mn, Dint mx, rgs [], .slice [rxc e]] := fun mn mx => by rw [Drx_mk]; rfl
  simp only [hDr] at hVr hMr
  obtain ⟨least, hle⟩ : ∃ least : Nat, m % 4 = least ∧ least ≤ 3 := ⟨(m % 4).toNat, by omega, by omega⟩
  have c1 := fun n => counts_one self1 e s (least := least) (n := n)
  have c2 := counts_all self1 e s (least := least) hle.2
  simp only [← hle.1] at c1 c2
  generalize (lg e 600).1 = b at *
  have hre : rxc e = rx5 e.op e.mn e.mx e.rs e.ks := by obtain ⟨o1, n1, x1, rs1, ks1⟩ := e; exact rxc_mk o1 n1 x1 rs1 ks1
  have hDe : Drx e = .agg (rx5 e.op e.mn e.mx e.rs e.ks) := by rw [Drx, hre]
  rw [hre] at hb hn
  simp only [hre] at hVr hMr
  rw [hDe] at hV ⊢
  generalize e.op = o1 at *
  generalize e.mn = n1 at *
  generalize e.mx = x1 at *
  generalize e.rs = rs1 at *
  generalize e.ks = ks1 at *
  refine spec_of Tryd.func6 (by kernel_rfl) rfl (by simp) ?_
  dsimp only [Tryd.f6]
  refine r_take 700 0 700 hX0 rfl rfl ?_
  refine r_take 701 0 701 (upd_ne hX1 (by simp)) rfl rfl ?_
  cases b with
  | true =>
    repeat' (first | (refine k_op1 ?_; (first | refine o_sv rfl (by decide) ?_ | (refine k_load ?_; (refine o_val (v_loada rfl rfl rfl) rfl rfl (by decide) ?_)) | (refine k_call ?_; (refine o_fn hb rfl (by decide) ?_)) | (refine k_box ?_; (refine o_does (d_box_d rfl rfl (by decide)) ?_)) | (refine k_lit ?_; (refine o_lit rfl rfl rfl rfl rfl rfl rfl rfl (by decide) ?_)))) | (refine k_ops ?_; (first | refine o_go (by first | exact .inl rfl | exact .inr ⟨_, _, _, rfl, rfl, rfl⟩) ?_ | refine o_nil ?_ | refine o_no rfl rfl (by decide) ?_)) | (refine k_run ?_; (first | refine r_seq ?_ | refine r_region ?_ | refine r_true rfl ?_)))
    all_goals try (exfalso; first | omega | contradiction)
    all_goals refine r_give 700 0 700 (raw := .glob 0 τ.o0) rfl rfl (upd_ne (upd_same _ (0, 700) _) (by simp)) rfl rfl ?_
    all_goals refine r_give 701 0 701 (raw := .glob 1 τ.o1) rfl rfl (upd_ne (upd_same _ (0, 701) _) (by simp)) rfl rfl ?_
    all_goals exact r_ret Tryd.func6 _ (res_one rfl rfl) ⟨rfl, tabs_back hX0 hX1⟩
  | false =>
    have hn := hn rfl
    cases nb with
    | true =>
      repeat' (first | (refine k_op1 ?_; (first | refine o_sv rfl (by decide) ?_ | (refine k_load ?_; (refine o_val (v_loada rfl rfl rfl) rfl rfl (by decide) ?_)) | (refine k_call ?_; (first | refine o_fn hb rfl (by decide) ?_ | refine o_fn hn rfl (by decide) ?_)) | (refine k_box ?_; (refine o_does (d_box_d rfl rfl (by decide)) ?_)) | (refine k_lit ?_; (refine o_lit rfl rfl rfl rfl rfl rfl rfl rfl (by decide) ?_)))) | (refine k_ops ?_; (first | refine o_go (by first | exact .inl rfl | exact .inr ⟨_, _, _, rfl, rfl, rfl⟩) ?_ | refine o_nil ?_ | refine o_no rfl rfl (by decide) ?_)) | (refine k_run ?_; (first | refine r_seq ?_ | refine r_region ?_ | refine r_true rfl ?_)))
      all_goals try (exfalso; first | omega | contradiction)
      all_goals refine r_give 700 0 700 (raw := .glob 0 τ.o0) rfl rfl (upd_ne (upd_same _ (0, 700) _) (by simp)) rfl rfl ?_
      all_goals refine r_give 701 0 701 (raw := .glob 1 τ.o1) rfl rfl (upd_ne (upd_same _ (0, 701) _) (by simp)) rfl rfl ?_
      all_goals exact r_ret Tryd.func6 _ (res_one rfl rfl) ⟨rfl, tabs_back hX0 hX1⟩
    | false =>
      by_cases h8 : 8 < s.size
      · repeat' (first | (refine k_op1 ?_; (first | refine o_sv rfl (by decide) ?_ | (refine k_load ?_; (refine o_val (v_loada rfl rfl rfl) rfl rfl (by decide) ?_)) | (refine k_blt ?_; (refine o_val (v_lens rfl) rfl rfl (by decide) ?_)) | (refine k_call ?_; (first | refine o_fn hb rfl (by decide) ?_ | refine o_fn hn rfl (by decide) ?_)) | (refine k_box ?_; (refine o_does (d_box_d rfl rfl (by decide)) ?_)) | (refine k_lit ?_; (refine o_lit rfl rfl rfl rfl rfl rfl rfl rfl (by decide) ?_)))) | (refine k_ops ?_; (first | refine o_go (by first | exact .inl rfl | exact .inr ⟨_, _, _, rfl, rfl, rfl⟩) ?_ | refine o_nil ?_ | refine o_no rfl rfl (by decide) ?_ | refine o_casep rfl rfl (fun _ => ?_) (fun _ => ?_))) | (refine k_run ?_; (first | refine r_seq ?_ | refine r_region ?_ | refine r_true rfl ?_)))
        all_goals try (exfalso; first | omega | contradiction)
        all_goals refine r_give 700 0 700 (raw := .glob 0 τ.o0) rfl rfl (upd_ne (upd_same _ (0, 700) _) (by simp)) rfl rfl ?_
        all_goals refine r_give 701 0 701 (raw := .glob 1 τ.o1) rfl rfl (upd_ne (upd_same _ (0, 701) _) (by simp)) rfl rfl ?_
        all_goals exact r_ret Tryd.func6 _ (res_one rfl rfl) ⟨rfl, tabs_back hX0 hX1⟩
      · generalize val e = ve at hV
        by_cases hve : ve = 0
        · repeat' (first | (refine k_op1 ?_; (first | refine o_sv rfl (by decide) ?_ | (refine k_load ?_; (refine o_val (v_loada rfl rfl rfl) rfl rfl (by decide) ?_)) | (refine k_bin ?_; (refine o_val (v_rem (by omega) (by omega)) rfl rfl (by decide) ?_)) | (refine k_blt ?_; (refine o_val (v_lens rfl) rfl rfl (by decide) ?_)) | (refine k_call ?_; (first | refine o_fn hb rfl (by decide) ?_ | refine o_fn hn rfl (by decide) ?_ | refine o_fn hV rfl (by decide) ?_)) | (refine k_box ?_; (refine o_does (d_box_d rfl rfl (by decide)) ?_)) | (refine k_lit ?_; (refine o_lit rfl rfl rfl rfl rfl rfl rfl rfl (by decide) ?_)) | (refine k_conv ?_; (refine o_val (v_conv rfl rfl (wi64 (by omega) (by omega))) rfl rfl (by decide) ?_)))) | (refine k_ops ?_; (first | refine o_go (by first | exact .inl rfl | exact .inr ⟨_, _, _, rfl, rfl, rfl⟩) ?_ | refine o_nil ?_ | refine o_no rfl rfl (by decide) ?_ | refine o_casep rfl rfl (fun _ => ?_) (fun _ => ?_))) | (refine k_run ?_; (first | refine r_seq ?_ | refine r_region ?_ | refine r_true rfl ?_ | refine r_skip ?_ | refine r_block ?_ | refine r_ifn rfl (fun _ => ?_) (fun _ => ?_))))
          all_goals try (exfalso; first | omega | contradiction)
          refine r_loop ?_
          refine r_less (r_inv (fun q : Nat × Int × Bool => ⟨80, [(2, S s), (3, .ptr (0, 3) 0), (7, I .i64 (m % 4)), (8, B q.2.2), (9, I .i64 q.2.1), (100700, .al (0, 700) (1, 700)), (100701, .al (0, 701) (1, 701))], [(3, .box ((rx5 o1 n1 x1 rs1 ks1).map .d)), (700, .glob 0 τ.o0), (701, .glob 1 τ.o1)], upd (upd H (0, 700) .gone) (0, 701) .gone⟩)
            (fun q => q.2.1 = (q.1 : Int) ∧ least ≤ q.1 ∧ q.1 ≤ 17 ∧ q.2.2 = anyC self1 e s least q.1 ∧ ∀ j : Nat, least ≤ j → j < q.1 → val (rpt j j e) = 0) (fun q => 17 - q.1) ?_ (least, m % 4, false) ⟨hle.1, Nat.le_refl _, by simp only; omega, (anyC_none _ _ _ _ _ (Nat.le_refl _)).symm, fun j h1 h2 => by simp only at h2; omega⟩) rfl rfl
          rintro ⟨n, z, sm⟩ ⟨i1, i2, i3, i4, i5⟩ ihl
          simp only at i1 i2 i3 i4 i5 ihl ⊢
          subst i1
          by_cases hlt : n ≤ 16
          · have v1 := hVr n n
            have v2 := hVr (m % 4) n
            have m1 := hMr n n (by omega)
            have m2 := hMr (m % 4) n (by omega)
            have hstep : anyC self1 e s least (n + 1) = (sm || mtS self1 (rpt n n e) s) := by rw [anyC, i4, decide_eq_true i2, Bool.true_and]
            by_cases hx : val (rpt n n e) = 0
            · by_cases hy : val (rpt (m % 4) n e) = 0
              · have hY := c1 n i2 (fun j h1 h2 => by
                  by_cases hj : j < n
                  · exact i5 j h1 hj
                  · have : j = n := by omega
                    subst this; exact hx) hy
                have ihl' := ihl (n + 1, ((n + 1 : Nat) : Int), anyC self1 e s least (n + 1)) ⟨rfl, by simp only; omega, by simp only; omega, rfl, fun j h1 h2 => by
                  simp only at h2
                  by_cases hj : j < n
                  · exact i5 j h1 hj
                  · have : j = n := by omega
                    subst this; exact hx⟩ (by simp only; omega)
                rw [hx] at v1
                rw [hy] at v2
                rw [hY] at m2
                rw [hstep] at m2 ihl'
                generalize mtS self1 (rpt n n e) s = X at *
                clear hY hstep i4 c1 c2
                cases sm with
                | true =>
                  rw [Bool.true_or] at m2 ihl'
                  repeat' (first | (refine k_op1 ?_; (first | refine o_sv rfl (by decide) ?_ | (refine k_load ?_; (first | refine o_val (v_loada rfl rfl rfl) rfl rfl (by decide) ?_ | refine o_val (v_loadp rfl rfl rfl rfl) rfl rfl (by decide) ?_)) | (refine k_bin ?_; (first | refine o_val (v_add (wi64 (by omega) (by omega))) rfl rfl (by decide) ?_ | refine o_val (v_bneq rfl) rfl rfl (by decide) ?_)) | (refine k_call ?_; (first | refine o_fn v1 rfl (by decide) ?_ | refine o_fn v2 rfl (by decide) ?_ | refine o_fn m2 rfl (by decide) ?_)) | (refine k_store ?_; (refine o_store0 rfl rfl rfl rfl rfl rfl ?_)) | (refine k_alloc ?_; (refine o_does (d_alloc rfl rfl (by decide)) ?_)) | (refine k_build ?_; (refine o_build rfl rfl rfl rfl rfl rfl rfl (by decide) ?_)) | (refine k_lit ?_; (refine o_lit rfl rfl rfl rfl rfl rfl rfl rfl (by decide) ?_)))) | (refine k_ops ?_; (first | refine o_go (by first | exact .inl rfl | exact .inr ⟨_, _, _, rfl, rfl, rfl⟩) ?_ | refine o_nil ?_ | refine o_no rfl rfl (by decide) ?_)) | (refine k_run ?_; (first | refine r_seq ?_ | refine r_region ?_ | refine r_false rfl ?_ | refine r_skip ?_ | refine r_block ?_ | refine r_inBlock ?_ | refine r_if rfl (fun _ => ?_) (fun _ => ?_) | refine r_exit rfl ?_)))
                  all_goals try (exfalso; first | omega | contradiction)
                  all_goals exact r_less ihl' rfl rfl
                | false =>
                  rw [Bool.false_or] at m2 ihl'
                  cases X with
                  | true =>
                    repeat' (first | (refine k_op1 ?_; (first | refine o_sv rfl (by decide) ?_ | (refine k_load ?_; (first | refine o_val (v_loada rfl rfl rfl) rfl rfl (by decide) ?_ | refine o_val (v_loadp rfl rfl rfl rfl) rfl rfl (by decide) ?_)) | (refine k_bin ?_; (first | refine o_val (v_add (wi64 (by omega) (by omega))) rfl rfl (by decide) ?_ | refine o_val (v_bneq rfl) rfl rfl (by decide) ?_)) | (refine k_call ?_; (first | refine o_fn v1 rfl (by decide) ?_ | refine o_fn v2 rfl (by decide) ?_ | refine o_fn m1 rfl (by decide) ?_ | refine o_fn m2 rfl (by decide) ?_)) | (refine k_store ?_; (refine o_store0 rfl rfl rfl rfl rfl rfl ?_)) | (refine k_alloc ?_; (refine o_does (d_alloc rfl rfl (by decide)) ?_)) | (refine k_build ?_; (refine o_build rfl rfl rfl rfl rfl rfl rfl (by decide) ?_)) | (refine k_lit ?_; (refine o_lit rfl rfl rfl rfl rfl rfl rfl rfl (by decide) ?_)))) | (refine k_ops ?_; (first | refine o_go (by first | exact .inl rfl | exact .inr ⟨_, _, _, rfl, rfl, rfl⟩) ?_ | refine o_nil ?_)) | (refine k_run ?_; (first | refine r_seq ?_ | refine r_region ?_ | refine r_false rfl ?_ | refine r_skip ?_ | refine r_block ?_ | refine r_inBlock ?_ | refine r_if rfl (fun _ => ?_) (fun _ => ?_) | refine r_exit rfl ?_)))
                    all_goals try (exfalso; first | omega | contradiction)
                    all_goals exact r_less ihl' rfl rfl
                  | false =>
                    repeat' (first | (refine k_op1 ?_; (first | refine o_sv rfl (by decide) ?_ | (refine k_load ?_; (first | refine o_val (v_loada rfl rfl rfl) rfl rfl (by decide) ?_ | refine o_val (v_loadp rfl rfl rfl rfl) rfl rfl (by decide) ?_)) | (refine k_bin ?_; (first | refine o_val (v_add (wi64 (by omega) (by omega))) rfl rfl (by decide) ?_ | refine o_val (v_bneq rfl) rfl rfl (by decide) ?_)) | (refine k_call ?_; (first | refine o_fn v1 rfl (by decide) ?_ | refine o_fn v2 rfl (by decide) ?_ | refine o_fn m1 rfl (by decide) ?_ | refine o_fn m2 rfl (by decide) ?_)) | (refine k_store ?_; (refine o_store0 rfl rfl rfl rfl rfl rfl ?_)) | (refine k_alloc ?_; (refine o_does (d_alloc rfl rfl (by decide)) ?_)) | (refine k_build ?_; (refine o_build rfl rfl rfl rfl rfl rfl rfl (by decide) ?_)) | (refine k_lit ?_; (refine o_lit rfl rfl rfl rfl rfl rfl rfl rfl (by decide) ?_)))) | (refine k_ops ?_; (first | refine o_go (by first | exact .inl rfl | exact .inr ⟨_, _, _, rfl, rfl, rfl⟩) ?_ | refine o_nil ?_)) | (refine k_run ?_; (first | refine r_seq ?_ | refine r_region ?_ | refine r_false rfl ?_ | refine r_skip ?_ | refine r_block ?_ | refine r_inBlock ?_ | refine r_if rfl (fun _ => ?_) (fun _ => ?_) | refine r_exit rfl ?_)))
                    all_goals try (exfalso; first | omega | contradiction)
                    all_goals exact r_less ihl' rfl rfl
              · rw [hx] at v1
                generalize val (rpt (m % 4) n e) = vy at *
                clear c1 c2
                repeat' (first | (refine k_op1 ?_; (first | refine o_sv rfl (by decide) ?_ | (refine k_load ?_; (first | refine o_val (v_loada rfl rfl rfl) rfl rfl (by decide) ?_ | refine o_val (v_loadp rfl rfl rfl rfl) rfl rfl (by decide) ?_)) | (refine k_call ?_; (first | refine o_fn v1 rfl (by decide) ?_ | refine o_fn v2 rfl (by decide) ?_)) | (refine k_store ?_; (refine o_store0 rfl rfl rfl rfl rfl rfl ?_)) | (refine k_alloc ?_; (refine o_does (d_alloc rfl rfl (by decide)) ?_)) | (refine k_build ?_; (refine o_build rfl rfl rfl rfl rfl rfl rfl (by decide) ?_)) | (refine k_lit ?_; (refine o_lit rfl rfl rfl rfl rfl rfl rfl rfl (by decide) ?_)))) | (refine k_ops ?_; (first | refine o_go (by first | exact .inl rfl | exact .inr ⟨_, _, _, rfl, rfl, rfl⟩) ?_ | refine o_nil ?_ | refine o_no rfl rfl (by decide) ?_ | refine o_case rfl rfl (fun _ => ?_) (fun _ => ?_))) | (refine k_run ?_; (first | refine r_seq ?_ | refine r_region ?_ | refine r_skip ?_ | refine r_block ?_ | refine r_if rfl (fun _ => ?_) (fun _ => ?_) | refine r_ifn rfl (fun _ => ?_) (fun _ => ?_) | refine r_exit rfl ?_)))
                all_goals try (exfalso; first | omega | contradiction)
                all_goals refine r_give 700 0 700 (raw := .glob 0 τ.o0) rfl rfl (upd_ne (upd_same _ (0, 700) _) (by simp)) rfl rfl ?_
                all_goals refine r_give 701 0 701 (raw := .glob 1 τ.o1) rfl rfl (upd_ne (upd_same _ (0, 701) _) (by simp)) rfl rfl ?_
                all_goals exact r_ret Tryd.func6 _ (res_one rfl rfl) ⟨rfl, tabs_back hX0 hX1⟩
            · generalize val (rpt n n e) = vx at *
              clear c1 c2
              repeat' (first | (refine k_op1 ?_; (first | refine o_sv rfl (by decide) ?_ | (refine k_load ?_; (first | refine o_val (v_loada rfl rfl rfl) rfl rfl (by decide) ?_ | refine o_val (v_loadp rfl rfl rfl rfl) rfl rfl (by decide) ?_)) | (refine k_call ?_; (first | refine o_fn v1 rfl (by decide) ?_ | refine o_fn v2 rfl (by decide) ?_)) | (refine k_store ?_; (refine o_store0 rfl rfl rfl rfl rfl rfl ?_)) | (refine k_alloc ?_; (refine o_does (d_alloc rfl rfl (by decide)) ?_)) | (refine k_build ?_; (refine o_build rfl rfl rfl rfl rfl rfl rfl (by decide) ?_)) | (refine k_lit ?_; (refine o_lit rfl rfl rfl rfl rfl rfl rfl rfl (by decide) ?_)))) | (refine k_ops ?_; (first | refine o_go (by first | exact .inl rfl | exact .inr ⟨_, _, _, rfl, rfl, rfl⟩) ?_ | refine o_nil ?_ | refine o_no rfl rfl (by decide) ?_ | refine o_casen rfl rfl (fun _ => ?_) (fun _ => ?_) | refine o_case rfl rfl (fun _ => ?_) (fun _ => ?_))) | (refine k_run ?_; (first | refine r_seq ?_ | refine r_region ?_ | refine r_true rfl ?_ | refine r_skip ?_ | refine r_block ?_ | refine r_if rfl (fun _ => ?_) (fun _ => ?_) | refine r_ifn rfl (fun _ => ?_) (fun _ => ?_) | refine r_exit rfl ?_)))
              all_goals try (exfalso; first | omega | contradiction)
              all_goals refine r_give 700 0 700 (raw := .glob 0 τ.o0) rfl rfl (upd_ne (upd_same _ (0, 700) _) (by simp)) rfl rfl ?_
              all_goals refine r_give 701 0 701 (raw := .glob 1 τ.o1) rfl rfl (upd_ne (upd_same _ (0, 701) _) (by simp)) rfl rfl ?_
              all_goals exact r_ret Tryd.func6 _ (res_one rfl rfl) ⟨rfl, tabs_back hX0 hX1⟩
          · obtain rfl : n = 17 := by omega
            have m3 := hMr (m % 4) (-1) (by omega)
            have hZ := c2 (by omega) (fun j h1 h2 => i5 j h1 (by omega))
            rw [← i4] at hZ
            rw [hZ] at m3
            clear ihl
            cases sm with
            | true =>
              repeat' (first | (refine k_op1 ?_; (first | refine o_sv rfl (by decide) ?_ | (refine k_load ?_; (first | refine o_val (v_loada rfl rfl rfl) rfl rfl (by decide) ?_ | refine o_val (v_loadp rfl rfl rfl rfl) rfl rfl (by decide) ?_)) | (refine k_bin ?_; (refine o_val (v_beql rfl) rfl rfl (by decide) ?_)) | (refine k_call ?_; (first | refine o_effd ha rfl rfl (by decide) ?_ | refine o_fn m3 rfl (by decide) ?_)) | (refine k_store ?_; (refine o_store0 rfl rfl rfl rfl rfl rfl ?_)) | (refine k_alloc ?_; (refine o_does (d_alloc rfl rfl (by decide)) ?_)) | (refine k_build ?_; (refine o_build rfl rfl rfl rfl rfl rfl rfl (by decide) ?_)) | (refine k_lit ?_; (refine o_lit rfl rfl rfl rfl rfl rfl rfl rfl (by decide) ?_)))) | (refine k_ops ?_; (first | refine o_go (by first | exact .inl rfl | exact .inr ⟨_, _, _, rfl, rfl, rfl⟩) ?_ | refine o_nil ?_)) | (refine k_run ?_; (first | refine r_seq ?_ | refine r_region ?_ | refine r_false rfl ?_ | refine r_exit rfl ?_)))
              all_goals try (exfalso; first | omega | contradiction)
              all_goals refine r_give 700 0 700 (raw := .glob 0 τ.o0) rfl rfl (upd_ne (upd_same _ (0, 700) _) (by simp)) rfl rfl ?_
              all_goals refine r_give 701 0 701 (raw := .glob 1 τ.o1) rfl rfl (upd_ne (upd_same _ (0, 701) _) (by simp)) rfl rfl ?_
              all_goals exact r_ret Tryd.func6 _ (res_one rfl rfl) ⟨rfl, tabs_back hX0 hX1⟩
            | false =>
              repeat' (first | (refine k_op1 ?_; (first | refine o_sv rfl (by decide) ?_ | (refine k_load ?_; (first | refine o_val (v_loada rfl rfl rfl) rfl rfl (by decide) ?_ | refine o_val (v_loadp rfl rfl rfl rfl) rfl rfl (by decide) ?_)) | (refine k_bin ?_; (refine o_val (v_beql rfl) rfl rfl (by decide) ?_)) | (refine k_call ?_; (first | refine o_effd ha rfl rfl (by decide) ?_ | refine o_fn m3 rfl (by decide) ?_)) | (refine k_store ?_; (refine o_store0 rfl rfl rfl rfl rfl rfl ?_)) | (refine k_alloc ?_; (refine o_does (d_alloc rfl rfl (by decide)) ?_)) | (refine k_build ?_; (refine o_build rfl rfl rfl rfl rfl rfl rfl (by decide) ?_)) | (refine k_lit ?_; (refine o_lit rfl rfl rfl rfl rfl rfl rfl rfl (by decide) ?_)))) | (refine k_ops ?_; (first | refine o_go (by first | exact .inl rfl | exact .inr ⟨_, _, _, rfl, rfl, rfl⟩) ?_ | refine o_nil ?_)) | (refine k_run ?_; (first | refine r_seq ?_ | refine r_region ?_ | refine r_false rfl ?_ | refine r_exit rfl ?_)))
              all_goals try (exfalso; first | omega | contradiction)
              all_goals refine r_give 700 0 700 (raw := .glob 0 τ.o0) rfl rfl (upd_ne (upd_same _ (0, 700) _) (by simp)) rfl rfl ?_
              all_goals refine r_give 701 0 701 (raw := .glob 1 τ.o1) rfl rfl (upd_ne (upd_same _ (0, 701) _) (by simp)) rfl rfl ?_
              all_goals exact r_ret Tryd.func6 _ (res_one rfl rfl) ⟨rfl, tabs_back hX0 hX1⟩
        · repeat' (first | (refine k_op1 ?_; (first | refine o_sv rfl (by decide) ?_ | (refine k_load ?_; (refine o_val (v_loada rfl rfl rfl) rfl rfl (by decide) ?_)) | (refine k_blt ?_; (refine o_val (v_lens rfl) rfl rfl (by decide) ?_)) | (refine k_call ?_; (first | refine o_fn hb rfl (by decide) ?_ | refine o_fn hn rfl (by decide) ?_ | refine o_fn hV rfl (by decide) ?_)) | (refine k_box ?_; (refine o_does (d_box_d rfl rfl (by decide)) ?_)) | (refine k_lit ?_; (refine o_lit rfl rfl rfl rfl rfl rfl rfl rfl (by decide) ?_)))) | (refine k_ops ?_; (first | refine o_go (by first | exact .inl rfl | exact .inr ⟨_, _, _, rfl, rfl, rfl⟩) ?_ | refine o_nil ?_ | refine o_no rfl rfl (by decide) ?_ | refine o_casep rfl rfl (fun _ => ?_) (fun _ => ?_))) | (refine k_run ?_; (first | refine r_seq ?_ | refine r_region ?_ | refine r_true rfl ?_ | refine r_skip ?_ | refine r_ifn rfl (fun _ => ?_) (fun _ => ?_))))
          all_goals try (exfalso; first | omega | contradiction)
          all_goals refine r_give 700 0 700 (raw := .glob 0 τ.o0) rfl rfl (upd_ne (upd_same _ (0, 700) _) (by simp)) rfl rfl ?_
          all_goals refine r_give 701 0 701 (raw := .glob 1 τ.o1) rfl rfl (upd_ne (upd_same _ (0, 701) _) (by simp)) rfl rfl ?_
          all_goals exact r_ret Tryd.func6 _ (res_one rfl rfl) ⟨rfl, tabs_back hX0 hX1⟩
theorem u8_wf {a : Int} (h : (Lit.int .u8 a).wf = true) : 0 ≤ a ∧ a ≤ 255 := by
  simp only [Lit.wf, Bool.and_eq_true, decide_eq_true_eq] at h
  have e1 : IntKind.u8.min = 0 := by decide
  have e2 : IntKind.u8.max = 255 := by decide
  rw [e1, e2] at h
  exact h
end Go.Proofs.YtjmbjgecfpggdaaDoor
