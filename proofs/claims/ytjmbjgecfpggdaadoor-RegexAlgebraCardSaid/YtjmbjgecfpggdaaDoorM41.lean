/- A part of the proof: G41. -/
import Derived.Test.YtjmbjgecfpggdaaDoorM40
import Derived.Test.YtjmbjgecfpggdaaDoorM39
import Derived.Test.YtjmbjgecfpggdaaDoorMX21
set_option linter.all false
set_option linter.unusedVariables false
set_option linter.unusedSimpArgs false
namespace Go.Proofs.YtjmbjgecfpggdaaDoor
open Go.Ab Go.Rx
set_option maxHeartbeats 20000000
set_option maxRecDepth 100000
set_option linter.unusedVariables false
set_option linter.unusedSimpArgs false
set_option linter.unusedSectionVars false
attribute [local irreducible] Run Ops Op1 Does Val Tr PureF Eff1 NF Rel EffV EffM EffN
theorem r_stopc {P : Program} {f : FuncId} {R : Post} {k : List Item} {A : Code} {st : St} (h : Stop (Run P f R (.code A :: k) st)) : Run P f R (.code A :: k) st := h.go
theorem unF_get : ∀ (l : List U) (i j : Nat), i < l.length → ∃ u : U, (unF j l)[i]? = some (u.r, ((j + bts (l.take i) : Nat) : Int), (u.n : Int))
  | [], i, j, h => by simp at h
  | u :: l, 0, j, h => ⟨u, by rw [unF]; rfl⟩
  | u :: l, i + 1, j, h => by
    obtain ⟨v, hv⟩ := unF_get l i (j + u.n) (by simpa using h)
    refine ⟨v, ?_⟩
    rw [unF, List.getElem?_cons_succ, hv, List.take_succ_cons, bts, Nat.add_assoc]
theorem atR_lt {s : ByteArray} {i : Nat} (h : i < (rst s 0).length) : ∃ r n : Int, atR s i = .tup [I .i32 r, I .i64 (atN s i : Nat), I .i64 n, B true] := by
  obtain ⟨u, hu⟩ := unF_get (rst s 0) i 0 h
  refine ⟨u.r, u.n, ?_⟩
  rw [atR, hu, atN]
  simp
theorem atR_ge {s : ByteArray} {i : Nat} (h : (rst s 0).length ≤ i) : atR s i = .tup [I .i32 0, I .i64 0, I .i64 0, B false] := by
  have hl := unF_len (rst s 0) 0
  rw [atR, List.getElem?_eq_none (by omega)]
theorem atN_all (s : ByteArray) : atN s (rst s 0).length = s.size := by
  rw [atN, List.take_length, rst_size (Nat.zero_le _)]; omega
abbrev uniR (a b : Rx) : Rx := .mk 3 0 0 [] [a, b]
abbrev catR (a b : Rx) : Rx := .mk 2 0 0 [] [a, b]
theorem algebra_s (τ : Tab) (a : Rx) (hfa : fit a) (b : Rx) (hfb : fit b) (s : ByteArray) : Eff1 Tryd.prog 7 [.d (Drx a), .d (Drx b), S s] (tabs τ 0) [] (B true) := by
  refine eff_of fun H hH => ?_
  have hX0 := hH ((0, 700), .glob 0 τ.o0) (by simp)
  have hX1 := hH ((0, 701), .glob 1 τ.o1) (by simp)
  have hfl : fitL [a, b] := by rw [fitL, fitL]; exact ⟨hfa, hfb, by rw [fitL]; trivial⟩
  have hf1 : fitL [a] := by rw [fitL]; exact ⟨hfa, by rw [fitL]; trivial⟩
  have hfu : fit (uniR a b) := by rw [fit]; exact ⟨by simp, by simp, hfl⟩
  have hfc : fit (catR a b) := by rw [fit]; exact ⟨by simp, by simp, hfl⟩
  have hfk : fit (rpt 0 (-1) a) := by rw [fit]; exact ⟨by simp, by simp, hf1⟩
  have hb := big_s [a, b] hfl (by simp)
  have ha := awake_s τ
  have hm0 : ([a, b] : List Rx).map rxc = [rxc a, rxc b] := rfl
  have hsa := lg_sz.1 a 600
  have hsb := lg_sz.1 b 600
  have hbe : bigL [a, b] = ((lg a 600).1 || (lg b 600).1) := by rw [bigL, List.any_cons, List.any_cons, List.any_nil, Bool.or_false]
  have hn := fun h : bigL [a, b] = false => nested_s [a, b] hfl (by simp) (fun x hx => by
    rw [hbe, Bool.or_eq_false_iff] at h
    simp only [List.mem_cons, List.not_mem_nil, or_false] at hx
    rcases hx with rfl | rfl
    · have := hsa h.1; omega
    · have := hsb h.2; omega)
  rw [hm0] at hb hn
  generalize nestL [a, b] = nb at hn
  generalize bigL [a, b] = bb at *
  clear hsa hsb hbe
  have hVa := rvalidate_s a hfa
  have hVb := rvalidate_s b hfb
  have hVl := fun h : s.size ≤ 1000000 => rvalid_s s h
  have hVu := validate_s _ hfu
  have hVc := validate_s _ hfc
  have hVk := validate_s _ hfk
  have hMu := fun h : s.size ≤ 1000000 => match1_s _ hfu s h
  have hMc := fun h : s.size ≤ 1000000 => match1_s _ hfc s h
  have hMk := fun (t : ByteArray) (h : t.size ≤ 1000000) => match1_s _ hfk t h
  have hMa := fun (t : ByteArray) (h : t.size ≤ 1000000) => match1_s _ hfa t h
  have hMb := fun (t : ByteArray) (h : t.size ≤ 1000000) => match1_s _ hfb t h
  have hDu : Drx (uniR a b) = .agg [Dint 3, Dint 0, Dint 0, rgs [], .slice [rxc a, rxc b]] := by rw [Drx_mk]; rfl
  have hDc : Drx (catR a b) = .agg [Dint 2, Dint 0, Dint 0, rgs [], .slice [rxc a, rxc b]] := by rw [Drx_mk]; rfl
  have hDk : Drx (rpt 0 (-1) a) = .agg [Dint 4, Dint 0, Dint (-1), rgs [], .slice [rxc a]] := by rw [Drx_mk]; rfl
  rw [hDu] at hVu
  rw [hDc] at hVc
  rw [hDk] at hVk
  simp only [hDu] at hMu
  simp only [hDc] at hMc
  simp only [hDk] at hMk
  have hra : rxc a = rx5 a.op a.mn a.mx a.rs a.ks := by obtain ⟨o1, n1, x1, rs1, ks1⟩ := a; exact rxc_mk o1 n1 x1 rs1 ks1
  have hrb : rxc b = rx5 b.op b.mn b.mx b.rs b.ks := by obtain ⟨o1, n1, x1, rs1, ks1⟩ := b; exact rxc_mk o1 n1 x1 rs1 ks1
  have hDa : Drx a = .agg (rx5 a.op a.mn a.mx a.rs a.ks) := by rw [Drx, hra]
  have hDb : Drx b = .agg (rx5 b.op b.mn b.mx b.rs b.ks) := by rw [Drx, hrb]
  rw [hra, hrb] at hb hn hVu hVc
  rw [hra] at hVk
  simp only [hra, hrb] at hMu hMc hMk
  rw [hDa] at hVa ⊢
  rw [hDb] at hVb ⊢
  simp only [hDa] at hMa
  simp only [hDb] at hMb
  have halgu := fun hv : vldS s = true => alg_or (vs := self1) hv (a := a) (b := b)
  have halgc := fun hv : vldS s = true => alg_cat (vs := self1) hv (a := a) (b := b)
  have halgk := fun hv : vldS s = true => alg_star (vs := self1) hv (a := a)
  clear hra hrb hDa hDb hDu hDc hDk hm0 hfl hf1 hfu hfc hfk hfa hfb
  generalize a.op = o1 at *
  generalize a.mn = n1 at *
  generalize a.mx = x1 at *
  generalize a.rs = rs1 at *
  generalize a.ks = ks1 at *
  generalize b.op = o2 at *
  generalize b.mn = n2 at *
  generalize b.mx = x2 at *
  generalize b.rs = rs2 at *
  generalize b.ks = ks2 at *
  refine spec_of Tryd.func7 (by kernel_rfl) rfl (by simp) ?_
  dsimp only [Tryd.f7]
  refine r_take 700 0 700 hX0 rfl rfl ?_
  refine r_take 701 0 701 (upd_ne hX1 (by simp)) rfl rfl ?_
  cases bb with
  | true =>
    repeat' (first | (refine k_op1 ?_; (first | refine o_sv rfl (by decide) ?_ | (refine k_load ?_; (refine o_val (v_loada rfl rfl rfl) rfl rfl (by decide) ?_)) | (refine k_call ?_; (refine o_fn hb rfl (by decide) ?_)) | (refine k_box ?_; (refine o_does (d_box_d rfl rfl (by decide)) ?_)) | (refine k_lit ?_; (refine o_lit rfl rfl rfl rfl rfl rfl rfl rfl (by decide) ?_)))) | (refine k_ops ?_; (first | refine o_go (by first | exact .inl rfl | exact .inr ⟨_, _, _, rfl, rfl, rfl⟩) ?_ | refine o_nil ?_ | refine o_no rfl rfl (by decide) ?_)) | (refine k_run ?_; (first | refine r_seq ?_ | refine r_region ?_ | refine r_true rfl ?_)))
    all_goals try (exfalso; first | omega | contradiction)
    all_goals refine r_give 700 0 700 (raw := .glob 0 τ.o0) rfl rfl (upd_ne (upd_same _ (0, 700) _) (by simp)) rfl rfl ?_
    all_goals refine r_give 701 0 701 (raw := .glob 1 τ.o1) rfl rfl (upd_ne (upd_same _ (0, 701) _) (by simp)) rfl rfl ?_
    all_goals exact r_ret Tryd.func7 _ (res_one rfl rfl) ⟨rfl, tabs_back hX0 hX1⟩
  | false =>
    have hn := hn rfl
    cases nb with
    | true =>
      repeat' (first | (refine k_op1 ?_; (first | refine o_sv rfl (by decide) ?_ | (refine k_load ?_; (refine o_val (v_loada rfl rfl rfl) rfl rfl (by decide) ?_)) | (refine k_call ?_; (first | refine o_fn hb rfl (by decide) ?_ | refine o_fn hn rfl (by decide) ?_)) | (refine k_box ?_; (refine o_does (d_box_d rfl rfl (by decide)) ?_)) | (refine k_lit ?_; (refine o_lit rfl rfl rfl rfl rfl rfl rfl rfl (by decide) ?_)))) | (refine k_ops ?_; (first | refine o_go (by first | exact .inl rfl | exact .inr ⟨_, _, _, rfl, rfl, rfl⟩) ?_ | refine o_nil ?_ | refine o_no rfl rfl (by decide) ?_)) | (refine k_run ?_; (first | refine r_seq ?_ | refine r_region ?_ | refine r_true rfl ?_)))
      all_goals try (exfalso; first | omega | contradiction)
      all_goals refine r_give 700 0 700 (raw := .glob 0 τ.o0) rfl rfl (upd_ne (upd_same _ (0, 700) _) (by simp)) rfl rfl ?_
      all_goals refine r_give 701 0 701 (raw := .glob 1 τ.o1) rfl rfl (upd_ne (upd_same _ (0, 701) _) (by simp)) rfl rfl ?_
      all_goals exact r_ret Tryd.func7 _ (res_one rfl rfl) ⟨rfl, tabs_back hX0 hX1⟩
    | false =>
      by_cases h12 : 12 < s.size
      · repeat' (first | (refine k_op1 ?_; (first | refine o_sv rfl (by decide) ?_ | (refine k_load ?_; (refine o_val (v_loada rfl rfl rfl) rfl rfl (by decide) ?_)) | (refine k_blt ?_; (refine o_val (v_lens rfl) rfl rfl (by decide) ?_)) | (refine k_call ?_; (first | refine o_fn hb rfl (by decide) ?_ | refine o_fn hn rfl (by decide) ?_)) | (refine k_box ?_; (refine o_does (d_box_d rfl rfl (by decide)) ?_)) | (refine k_lit ?_; (refine o_lit rfl rfl rfl rfl rfl rfl rfl rfl (by decide) ?_)))) | (refine k_ops ?_; (first | refine o_go (by first | exact .inl rfl | exact .inr ⟨_, _, _, rfl, rfl, rfl⟩) ?_ | refine o_nil ?_ | refine o_no rfl rfl (by decide) ?_ | refine o_casep rfl rfl (fun _ => ?_) (fun _ => ?_))) | (refine k_run ?_; (first | refine r_seq ?_ | refine r_region ?_ | refine r_true rfl ?_)))
        all_goals try (exfalso; first | omega | contradiction)
        all_goals refine r_give 700 0 700 (raw := .glob 0 τ.o0) rfl rfl (upd_ne (upd_same _ (0, 700) _) (by simp)) rfl rfl ?_
        all_goals refine r_give 701 0 701 (raw := .glob 1 τ.o1) rfl rfl (upd_ne (upd_same _ (0, 701) _) (by simp)) rfl rfl ?_
        all_goals exact r_ret Tryd.func7 _ (res_one rfl rfl) ⟨rfl, tabs_back hX0 hX1⟩
      by_cases ha0 : val a = 0
      rotate_left
      · generalize val a = va at *
        repeat' (first | (refine k_op1 ?_; (first | refine o_sv rfl (by decide) ?_ | (refine k_load ?_; (refine o_val (v_loada rfl rfl rfl) rfl rfl (by decide) ?_)) | (refine k_blt ?_; (refine o_val (v_lens rfl) rfl rfl (by decide) ?_)) | (refine k_call ?_; (first | refine o_fn hb rfl (by decide) ?_ | refine o_fn hn rfl (by decide) ?_ | refine o_fn hVa rfl (by decide) ?_)) | (refine k_box ?_; (refine o_does (d_box_d rfl rfl (by decide)) ?_)) | (refine k_lit ?_; (refine o_lit rfl rfl rfl rfl rfl rfl rfl rfl (by decide) ?_)))) | (refine k_ops ?_; (first | refine o_go (by first | exact .inl rfl | exact .inr ⟨_, _, _, rfl, rfl, rfl⟩) ?_ | refine o_nil ?_ | refine o_no rfl rfl (by decide) ?_ | refine o_casep rfl rfl (fun _ => ?_) (fun _ => ?_) | refine o_casen rfl rfl (fun _ => ?_) (fun _ => ?_))) | (refine k_run ?_; (first | refine r_seq ?_ | refine r_region ?_ | refine r_true rfl ?_)))
        all_goals try (exfalso; first | omega | contradiction)
        all_goals refine r_give 700 0 700 (raw := .glob 0 τ.o0) rfl rfl (upd_ne (upd_same _ (0, 700) _) (by simp)) rfl rfl ?_
        all_goals refine r_give 701 0 701 (raw := .glob 1 τ.o1) rfl rfl (upd_ne (upd_same _ (0, 701) _) (by simp)) rfl rfl ?_
        all_goals exact r_ret Tryd.func7 _ (res_one rfl rfl) ⟨rfl, tabs_back hX0 hX1⟩
      by_cases hb0 : val b = 0
      rotate_left
      · rw [ha0] at hVa
        generalize val b = vb at *
        repeat' (first | (refine k_op1 ?_; (first | refine o_sv rfl (by decide) ?_ | (refine k_load ?_; (refine o_val (v_loada rfl rfl rfl) rfl rfl (by decide) ?_)) | (refine k_blt ?_; (refine o_val (v_lens rfl) rfl rfl (by decide) ?_)) | (refine k_call ?_; (first | refine o_fn hb rfl (by decide) ?_ | refine o_fn hn rfl (by decide) ?_ | refine o_fn hVa rfl (by decide) ?_ | refine o_fn hVb rfl (by decide) ?_)) | (refine k_box ?_; (refine o_does (d_box_d rfl rfl (by decide)) ?_)) | (refine k_lit ?_; (refine o_lit rfl rfl rfl rfl rfl rfl rfl rfl (by decide) ?_)))) | (refine k_ops ?_; (first | refine o_go (by first | exact .inl rfl | exact .inr ⟨_, _, _, rfl, rfl, rfl⟩) ?_ | refine o_nil ?_ | refine o_no rfl rfl (by decide) ?_ | refine o_casep rfl rfl (fun _ => ?_) (fun _ => ?_) | refine o_casen rfl rfl (fun _ => ?_) (fun _ => ?_))) | (refine k_run ?_; (first | refine r_seq ?_ | refine r_region ?_ | refine r_true rfl ?_)))
        all_goals try (exfalso; first | omega | contradiction)
        all_goals refine r_give 700 0 700 (raw := .glob 0 τ.o0) rfl rfl (upd_ne (upd_same _ (0, 700) _) (by simp)) rfl rfl ?_
        all_goals refine r_give 701 0 701 (raw := .glob 1 τ.o1) rfl rfl (upd_ne (upd_same _ (0, 701) _) (by simp)) rfl rfl ?_
        all_goals exact r_ret Tryd.func7 _ (res_one rfl rfl) ⟨rfl, tabs_back hX0 hX1⟩
      rw [ha0] at hVa
      rw [hb0] at hVb
      have hVl := hVl (by omega)
      have hMu := hMu (by omega)
      have hMc := hMc (by omega)
      by_cases hv : vldS s = true
      rotate_left
      · rw [Bool.not_eq_true] at hv
        rw [hv] at hVl
        repeat' (first | (refine k_op1 ?_; (first | refine o_sv rfl (by decide) ?_ | (refine k_load ?_; (refine o_val (v_loada rfl rfl rfl) rfl rfl (by decide) ?_)) | (refine k_blt ?_; (refine o_val (v_lens rfl) rfl rfl (by decide) ?_)) | (refine k_call ?_; (first | refine o_fn hb rfl (by decide) ?_ | refine o_fn hn rfl (by decide) ?_ | refine o_fn hVa rfl (by decide) ?_ | refine o_fn hVb rfl (by decide) ?_ | refine o_fn hVl rfl (by decide) ?_)) | (refine k_box ?_; (refine o_does (d_box_d rfl rfl (by decide)) ?_)) | (refine k_lit ?_; (refine o_lit rfl rfl rfl rfl rfl rfl rfl rfl (by decide) ?_)))) | (refine k_ops ?_; (first | refine o_go (by first | exact .inl rfl | exact .inr ⟨_, _, _, rfl, rfl, rfl⟩) ?_ | refine o_nil ?_ | refine o_no rfl rfl (by decide) ?_ | refine o_casep rfl rfl (fun _ => ?_) (fun _ => ?_))) | (refine k_run ?_; (first | refine r_seq ?_ | refine r_region ?_ | refine r_true rfl ?_)))
        all_goals try (exfalso; first | omega | contradiction)
        all_goals refine r_give 700 0 700 (raw := .glob 0 τ.o0) rfl rfl (upd_ne (upd_same _ (0, 700) _) (by simp)) rfl rfl ?_
        all_goals refine r_give 701 0 701 (raw := .glob 1 τ.o1) rfl rfl (upd_ne (upd_same _ (0, 701) _) (by simp)) rfl rfl ?_
        all_goals exact r_ret Tryd.func7 _ (res_one rfl rfl) ⟨rfl, tabs_back hX0 hX1⟩
      have halgu := halgu hv ha0 hb0
      have halgc := halgc hv ha0 hb0
      have halgk := halgk hv ha0
      rw [hv] at hVl
      repeat' (first | (refine k_op1 ?_; (first | refine o_sv rfl (by decide) ?_ | (refine k_load ?_; (refine o_val (v_loada rfl rfl rfl) rfl rfl (by decide) ?_)) | (refine k_blt ?_; (refine o_val (v_lens rfl) rfl rfl (by decide) ?_)) | (refine k_call ?_; (first | refine o_fn hb rfl (by decide) ?_ | refine o_fn hn rfl (by decide) ?_ | refine o_fn hVa rfl (by decide) ?_ | refine o_fn hVb rfl (by decide) ?_ | refine o_fn hVl rfl (by decide) ?_)) | (refine k_store ?_; (refine o_store0 rfl rfl rfl rfl rfl rfl ?_)) | (refine k_alloc ?_; (refine o_does (d_alloc rfl rfl (by decide)) ?_)) | (refine k_box ?_; (refine o_does (d_box_d rfl rfl (by decide)) ?_)) | (refine k_build ?_; (refine o_build rfl rfl rfl rfl rfl rfl rfl (by decide) ?_)) | (refine k_lit ?_; (refine o_lit rfl rfl rfl rfl rfl rfl rfl rfl (by decide) ?_)))) | (refine k_ops ?_; (first | refine o_go (by first | exact .inl rfl | exact .inr ⟨_, _, _, rfl, rfl, rfl⟩) ?_ | refine o_nil ?_ | refine o_no rfl rfl (by decide) ?_ | refine o_casep rfl rfl (fun _ => ?_) (fun _ => ?_))) | (refine k_run ?_; (first | (refine r_stop (A := .seq (.region 6 _ _) _) ?_) | refine r_seq ?_ | refine r_region ?_ | refine r_true rfl ?_ | refine r_false rfl ?_ | refine r_skip ?_)))
      all_goals try (exfalso; first | omega | contradiction)
      refine stop_go (r_cut (st0 := ⟨160, [(2, S s), (3, .ptr (0, 3) 0), (4, .ptr (0, 4) 0), (8, .ptr (0, 8) 0), (9, .ptr (0, 9) 0), (100700, .al (0, 700) (1, 700)), (100701, .al (0, 701) (1, 701))], [(3, .box ((rx5 o1 n1 x1 rs1 ks1).map .d)), (4, .box ((rx5 o2 n2 x2 rs2 ks2).map .d)), (8, .box ([.d (Dint 2), .d (Dint 0), .d (Dint 0), .d (.lit nilS), .d (.slice [rx5 o1 n1 x1 rs1 ks1, rx5 o2 n2 x2 rs2 ks2])])), (9, .box ([.d (Dint 4), .d (Dint 0), .d (Dint (-1)), .d (.lit nilS), .d (.slice [rx5 o1 n1 x1 rs1 ks1])])), (700, .glob 0 τ.o0), (701, .glob 1 τ.o1)], upd (upd H (0, 700) .gone) (0, 701) .gone⟩) ?_ (fun hj => ?_))
      rotate_left
      · by_cases hu : val (uniR a b) = 0
        · have halgu := halgu hu
          have hMas := hMa s (by omega)
          have hMbs := hMb s (by omega)
          rw [halgu] at hMu
          rw [hu] at hVu
          clear halgc halgk hVc hVk hMa hMb hMk hMc
          generalize mtS self1 a s = ma at *
          generalize mtS self1 b s = mb at *
          cases ma with
          | true =>
            rw [Bool.true_or] at hMu
            repeat' (first | (refine k_run ?_; (first | (refine r_stop (A := .region 8 _ _) ?_) | refine r_seq ?_ | refine r_false rfl ?_ | refine r_skip ?_ | refine r_tr ?_)) | (refine k_tr ?_; (first | (refine kt_end ?_; refine t_end mix (by kernel_rfl) ?_) | refine t_pass rfl rfl (by decide) ?_ | refine t_sv rfl (by first | exact rfl | exact ⟨_, rfl, rfl, rfl⟩) (by decide) ?_ | (refine kt_load ?_; (first | refine t_val (v_loada rfl rfl rfl) (by first | exact rfl | exact ⟨_, rfl, rfl, rfl⟩) rfl rfl (by decide) ?_ | refine t_val (v_loadp rfl rfl rfl rfl) (by first | exact rfl | exact ⟨_, rfl, rfl, rfl⟩) rfl rfl (by decide) ?_)) | (refine kt_bin ?_; (refine t_val (v_bneq rfl) (by first | exact rfl | exact ⟨_, rfl, rfl, rfl⟩) rfl rfl (by decide) ?_)) | (refine kt_call ?_; (first | refine t_fn hVu (by first | exact rfl | exact ⟨_, rfl, rfl, rfl⟩) rfl (by decide) ?_ | refine t_fn hMu (by first | exact rfl | exact ⟨_, rfl, rfl, rfl⟩) rfl (by decide) ?_ | refine t_fn hMas (by first | exact rfl | exact ⟨_, rfl, rfl, rfl⟩) rfl (by decide) ?_)))))
            all_goals try (exfalso; first | omega | contradiction)
            all_goals exact stop_go (r_less hj rfl rfl)
          | false =>
            rw [Bool.false_or] at hMu
            cases mb with
            | true =>
              repeat' (first | (refine k_run ?_; (first | (refine r_stop (A := .region 8 _ _) ?_) | refine r_seq ?_ | refine r_false rfl ?_ | refine r_skip ?_ | refine r_tr ?_)) | (refine k_tr ?_; (first | (refine kt_end ?_; refine t_end mix (by kernel_rfl) ?_) | refine t_sv rfl (by first | exact rfl | exact ⟨_, rfl, rfl, rfl⟩) (by decide) ?_ | (refine kt_load ?_; (first | refine t_val (v_loada rfl rfl rfl) (by first | exact rfl | exact ⟨_, rfl, rfl, rfl⟩) rfl rfl (by decide) ?_ | refine t_val (v_loadp rfl rfl rfl rfl) (by first | exact rfl | exact ⟨_, rfl, rfl, rfl⟩) rfl rfl (by decide) ?_)) | (refine kt_bin ?_; (refine t_val (v_bneq rfl) (by first | exact rfl | exact ⟨_, rfl, rfl, rfl⟩) rfl rfl (by decide) ?_)) | (refine kt_call ?_; (first | refine t_fn hVu (by first | exact rfl | exact ⟨_, rfl, rfl, rfl⟩) rfl (by decide) ?_ | refine t_fn hMu (by first | exact rfl | exact ⟨_, rfl, rfl, rfl⟩) rfl (by decide) ?_ | refine t_fn hMas (by first | exact rfl | exact ⟨_, rfl, rfl, rfl⟩) rfl (by decide) ?_ | refine t_fn hMbs (by first | exact rfl | exact ⟨_, rfl, rfl, rfl⟩) rfl (by decide) ?_)))))
              all_goals try (exfalso; first | omega | contradiction)
              all_goals exact stop_go (r_less hj rfl rfl)
            | false =>
              repeat' (first | (refine k_run ?_; (first | (refine r_stop (A := .region 8 _ _) ?_) | refine r_seq ?_ | refine r_false rfl ?_ | refine r_skip ?_ | refine r_tr ?_)) | (refine k_tr ?_; (first | (refine kt_end ?_; refine t_end mix (by kernel_rfl) ?_) | refine t_sv rfl (by first | exact rfl | exact ⟨_, rfl, rfl, rfl⟩) (by decide) ?_ | (refine kt_load ?_; (first | refine t_val (v_loada rfl rfl rfl) (by first | exact rfl | exact ⟨_, rfl, rfl, rfl⟩) rfl rfl (by decide) ?_ | refine t_val (v_loadp rfl rfl rfl rfl) (by first | exact rfl | exact ⟨_, rfl, rfl, rfl⟩) rfl rfl (by decide) ?_)) | (refine kt_bin ?_; (refine t_val (v_bneq rfl) (by first | exact rfl | exact ⟨_, rfl, rfl, rfl⟩) rfl rfl (by decide) ?_)) | (refine kt_call ?_; (first | refine t_fn hVu (by first | exact rfl | exact ⟨_, rfl, rfl, rfl⟩) rfl (by decide) ?_ | refine t_fn hMu (by first | exact rfl | exact ⟨_, rfl, rfl, rfl⟩) rfl (by decide) ?_ | refine t_fn hMas (by first | exact rfl | exact ⟨_, rfl, rfl, rfl⟩) rfl (by decide) ?_ | refine t_fn hMbs (by first | exact rfl | exact ⟨_, rfl, rfl, rfl⟩) rfl (by decide) ?_)))))
              all_goals try (exfalso; first | omega | contradiction)
              all_goals exact stop_go (r_less hj rfl rfl)
        · generalize val (uniR a b) = vu at *
          clear halgc halgk hVc hVk hMa hMb hMk hMc
          repeat' (first | (refine k_run ?_; (first | (refine r_stop (A := .region 8 _ _) ?_) | refine r_seq ?_ | refine r_false rfl ?_ | refine r_skip ?_ | refine r_tr ?_)) | (refine k_tr ?_; (first | (refine kt_end ?_; refine t_end mix (by kernel_rfl) ?_) | refine t_pass rfl rfl (by decide) ?_ | refine t_pass2 rfl rfl (by decide) ?_ | refine t_sv rfl (by first | exact rfl | exact ⟨_, rfl, rfl, rfl⟩) (by decide) ?_ | (refine kt_load ?_; (refine t_val (v_loadp rfl rfl rfl rfl) (by first | exact rfl | exact ⟨_, rfl, rfl, rfl⟩) rfl rfl (by decide) ?_)) | (refine kt_call ?_; (refine t_fn hVu (by first | exact rfl | exact ⟨_, rfl, rfl, rfl⟩) rfl (by decide) ?_)) | (refine t_either rfl rfl (fun hg => ?_) (fun hg => ?_) <;> simp only [hg] <;> (try simp only [decide_eq_true_eq, decide_eq_false_iff_not, Bool.not_eq_true', Bool.not_eq_false'] at hg)))))
          all_goals try (exfalso; first | omega | contradiction)
          all_goals exact stop_go (r_less hj rfl rfl)
      clear halgu hVu hMu
      have hco := count_s s (by omega)
      have hat := fun i h => at_s s (by omega) i h
      obtain ⟨L, hL⟩ : ∃ L, (rst s 0).length = L := ⟨_, rfl⟩
      have hLs : L ≤ s.size := by rw [← hL]; exact rst_len s s.size 0 (by omega)
      have hgt := fun (i : Nat) (h : i < L) => atR_lt (s := s) (i := i) (by omega)
      have hge := atR_ge (s := s) (i := L) (by omega)
      have hall := atN_all s
      rw [hL] at hco halgc halgk hall
      have hdec : decide (s.size = 0) = decide (s = (⟨#[]⟩ : ByteArray)) := by
        rw [decide_eq_decide]
        constructor
        · intro h; exact ByteArray.ext (Array.eq_empty_of_size_eq_zero h)
        · rintro rfl; rfl
      rw [hdec] at halgk
      repeat' (first | (refine k_op1 ?_; (refine o_sv rfl (by decide) ?_)) | (refine k_ops ?_; (first | refine o_go (by first | exact .inl rfl | exact .inr ⟨_, _, _, rfl, rfl, rfl⟩) ?_ | refine o_nil ?_)) | (refine k_run ?_; (first | refine r_seq ?_ | refine r_region ?_ | refine r_block ?_)))
      all_goals try (exfalso; first | omega | contradiction)
      generalize decide (s = (⟨#[]⟩ : ByteArray)) = em at *
      refine r_loop ?_
      refine r_less (r_inv (fun q : Nat × Bool × Bool => ⟨160, [(2, S s), (10, B q.2.1), (11, B q.2.2), (12, I .i64 (q.1 : Nat)), (3, .ptr (0, 3) 0), (4, .ptr (0, 4) 0), (8, .ptr (0, 8) 0), (9, .ptr (0, 9) 0), (100700, .al (0, 700) (1, 700)), (100701, .al (0, 701) (1, 701))], [(3, .box ((rx5 o1 n1 x1 rs1 ks1).map .d)), (4, .box ((rx5 o2 n2 x2 rs2 ks2).map .d)), (8, .box ([.d (Dint 2), .d (Dint 0), .d (Dint 0), .d (.lit nilS), .d (.slice [rx5 o1 n1 x1 rs1 ks1, rx5 o2 n2 x2 rs2 ks2])])), (9, .box ([.d (Dint 4), .d (Dint 0), .d (Dint (-1)), .d (.lit nilS), .d (.slice [rx5 o1 n1 x1 rs1 ks1])])), (700, .glob 0 τ.o0), (701, .glob 1 τ.o1)], upd (upd H (0, 700) .gone) (0, 701) .gone⟩)
        (fun q => q.1 ≤ L + 1 ∧ q.2.1 = orN (pCat self1 s a b) q.1 ∧ q.2.2 = (em || orN (pStar self1 s a (rpt 0 (-1) a)) q.1)) (fun q => L + 1 - q.1) ?_ (0, false, em) ⟨Nat.zero_le _, rfl, (Bool.or_false _).symm⟩) rfl rfl
      rintro ⟨i, dv, bg⟩ ⟨i1, i2, i3⟩ ihl
      simp only at i1 i2 i3 ihl ⊢
      by_cases hlt : i ≤ L
      · have hma := hMa (s.extract 0 (atN s i)) (by rw [ByteArray.size_extract]; omega)
        have hmb := hMb (s.extract (atN s i) s.size) (by rw [ByteArray.size_extract]; omega)
        have hmk := hMk (s.extract (atN s i) s.size) (by rw [ByteArray.size_extract]; omega)
        have hle := atN_le s i
        have hai := hat i (by omega)
        have ihl' := ihl (i + 1, dv || (mtS self1 a (s.extract 0 (atN s i)) && mtS self1 b (s.extract (atN s i) s.size)), bg || (decide (0 < atN s i) && mtS self1 a (s.extract 0 (atN s i)) && mtS self1 (rpt 0 (-1) a) (s.extract (atN s i) s.size))) ⟨by simp only; omega, by simp only; rw [orN, ← i2, pCat], by simp only; rw [orN, ← Bool.or_assoc, ← i3, pStar]⟩ (by simp only; omega)
        obtain ⟨r, n, ok, hai2, hok⟩ : ∃ (r n : Int) (ok : Bool), atR s i = .tup [I .i32 r, I .i64 (if ok then (atN s i : Nat) else 0), I .i64 n, B ok] ∧ (ok = false → atN s i = s.size) := by
          by_cases hL2 : i < L
          · obtain ⟨r, n, h⟩ := hgt i hL2
            exact ⟨r, n, true, h, fun h => by cases h⟩
          · obtain rfl : i = L := by omega
            exact ⟨0, 0, false, hge, fun _ => hall⟩
        rw [hai2] at hai
        clear hgt hge hall hai2 hat halgc halgk i2 i3 hMa hMb hMk hMc hVc hVk hVa hVb hVl hb hn ihl
        generalize mtS self1 a (s.extract 0 (atN s i)) = ma at *
        generalize mtS self1 b (s.extract (atN s i) s.size) = mb at *
        generalize mtS self1 (rpt 0 (-1) a) (s.extract (atN s i) s.size) = mk at *
        generalize atN s i = at_ at *
        repeat' (first | (refine k_op1 ?_; (first | refine o_sv rfl (by decide) ?_ | (refine k_load ?_; (refine o_val (v_loadp rfl rfl rfl rfl) rfl rfl (by decide) ?_)) | (refine k_call ?_; (first | refine o_fn hco rfl (by decide) ?_ | refine o_fn hai rfl (by decide) ?_)))) | (refine k_ops ?_; (first | refine o_go (by first | exact .inl rfl | exact .inr ⟨_, _, _, rfl, rfl, rfl⟩) ?_ | refine o_nil ?_)) | (refine k_run ?_; (first | (refine r_stop (A := .seq (.region 13 _ _) _) ?_) | refine r_seq ?_ | refine r_region ?_ | refine r_skip ?_ | refine r_block ?_ | refine r_if rfl (fun _ => ?_) (fun _ => ?_) | refine r_exit rfl ?_)))
        all_goals try (exfalso; first | omega | contradiction)
        refine stop_go (r_cut (st0 := ⟨160, [(2, S s), (10, B dv), (11, B bg), (12, I .i64 (i : Nat)), (14, I .i64 (at_ : Nat)), (3, .ptr (0, 3) 0), (4, .ptr (0, 4) 0), (8, .ptr (0, 8) 0), (9, .ptr (0, 9) 0), (100700, .al (0, 700) (1, 700)), (100701, .al (0, 701) (1, 701))], [(3, .box ((rx5 o1 n1 x1 rs1 ks1).map .d)), (4, .box ((rx5 o2 n2 x2 rs2 ks2).map .d)), (8, .box ([.d (Dint 2), .d (Dint 0), .d (Dint 0), .d (.lit nilS), .d (.slice [rx5 o1 n1 x1 rs1 ks1, rx5 o2 n2 x2 rs2 ks2])])), (9, .box ([.d (Dint 4), .d (Dint 0), .d (Dint (-1)), .d (.lit nilS), .d (.slice [rx5 o1 n1 x1 rs1 ks1])])), (700, .glob 0 τ.o0), (701, .glob 1 τ.o1)], upd (upd H (0, 700) .gone) (0, 701) .gone⟩) ?_ (fun hj => ?_))
        rotate_left
        · clear ihl'
          cases ok with
          | true =>
            repeat' (first | (refine k_op1 ?_; (refine o_sv rfl (by decide) ?_)) | (refine k_ops ?_; (first | refine o_go (by first | exact .inl rfl | exact .inr ⟨_, _, _, rfl, rfl, rfl⟩) ?_ | refine o_nil ?_)) | (refine k_run ?_; (first | (refine r_stop (A := .seq (.region 15 _ _) _) ?_) | refine r_seq ?_ | refine r_region ?_ | refine r_false rfl ?_ | refine r_skip ?_)))
            all_goals try (exfalso; first | omega | contradiction)
            all_goals exact stop_go (r_less hj rfl rfl)
          | false =>
            obtain rfl := hok rfl
            repeat' (first | (refine k_op1 ?_; (first | refine o_sv rfl (by decide) ?_ | (refine k_blt ?_; (refine o_val (v_lens rfl) rfl rfl (by decide) ?_)))) | (refine k_ops ?_; (first | refine o_go (by first | exact .inl rfl | exact .inr ⟨_, _, _, rfl, rfl, rfl⟩) ?_ | refine o_nil ?_)) | (refine k_run ?_; (first | (refine r_stop (A := .seq (.region 15 _ _) _) ?_) | refine r_seq ?_ | refine r_region ?_ | refine r_true rfl ?_)))
            all_goals try (exfalso; first | omega | contradiction)
            all_goals exact stop_go (r_less hj rfl rfl)
        clear hai hok hco
        repeat' (first | (refine k_op1 ?_; (first | refine o_sv rfl (by decide) ?_ | (refine k_blt ?_; (refine o_val (v_lens rfl) rfl rfl (by decide) ?_)))) | (refine k_ops ?_; (first | refine o_go (by first | exact .inl rfl | exact .inr ⟨_, _, _, rfl, rfl, rfl⟩) ?_ | refine o_nil ?_)) | (refine k_run ?_; (first | (refine r_stop (A := .region 17 _ _) ?_) | refine r_seq ?_ | refine r_region ?_ | refine r_skip ?_ | refine r_if rfl (fun _ => ?_) (fun _ => ?_))))
        all_goals try (exfalso; first | omega | contradiction)
        refine stop_go (r_cut (st0 := ⟨160, [(2, S s), (10, B (dv || (ma && mb))), (11, B bg), (12, I .i64 (i : Nat)), (14, I .i64 (at_ : Nat)), (3, .ptr (0, 3) 0), (4, .ptr (0, 4) 0), (8, .ptr (0, 8) 0), (9, .ptr (0, 9) 0), (100700, .al (0, 700) (1, 700)), (100701, .al (0, 701) (1, 701))], [(3, .box ((rx5 o1 n1 x1 rs1 ks1).map .d)), (4, .box ((rx5 o2 n2 x2 rs2 ks2).map .d)), (8, .box ([.d (Dint 2), .d (Dint 0), .d (Dint 0), .d (.lit nilS), .d (.slice [rx5 o1 n1 x1 rs1 ks1, rx5 o2 n2 x2 rs2 ks2])])), (9, .box ([.d (Dint 4), .d (Dint 0), .d (Dint (-1)), .d (.lit nilS), .d (.slice [rx5 o1 n1 x1 rs1 ks1])])), (700, .glob 0 τ.o0), (701, .glob 1 τ.o1)], upd (upd H (0, 700) .gone) (0, 701) .gone⟩) ?_ (fun hj => ?_))
        rotate_left
        · clear ihl'
          cases dv with
          | true =>
            repeat' (first | (refine k_run ?_; (first | (refine r_stopc (A := .region 18 _ _) ?_) | refine r_tr ?_)) | (refine k_tr ?_; (first | (refine kt_end ?_; refine t_end mix (by kernel_rfl) ?_) | refine t_pass rfl rfl (by decide) ?_ | refine t_pass2 rfl rfl (by decide) ?_ | refine t_sv rfl (by first | exact rfl | exact ⟨_, rfl, rfl, rfl⟩) (by decide) ?_)))
            all_goals exact stop_go (r_less hj rfl rfl)
          | false =>
            cases ma with
            | true =>
              cases mb with
              | true =>
                repeat' (first | (refine k_run ?_; (first | (refine r_stopc (A := .region 18 _ _) ?_) | refine r_tr ?_)) | (refine k_tr ?_; (first | (refine kt_end ?_; refine t_end mix (by kernel_rfl) ?_) | refine t_sv rfl (by first | exact rfl | exact ⟨_, rfl, rfl, rfl⟩) (by decide) ?_ | (refine kt_load ?_; (refine t_val (v_loada rfl rfl rfl) (by first | exact rfl | exact ⟨_, rfl, rfl, rfl⟩) rfl rfl (by decide) ?_)) | (refine kt_slice ?_; (first | refine t_val (v_sslicet rfl (by omega) (by omega)) (by first | exact rfl | exact ⟨_, rfl, rfl, rfl⟩) rfl rfl (by decide) ?_ | refine t_val (v_sslicef rfl (by omega) (by omega)) (by first | exact rfl | exact ⟨_, rfl, rfl, rfl⟩) rfl rfl (by decide) ?_)) | (refine kt_call ?_; (first | refine t_fn hma (by first | exact rfl | exact ⟨_, rfl, rfl, rfl⟩) rfl (by decide) ?_ | refine t_fn hmb (by first | exact rfl | exact ⟨_, rfl, rfl, rfl⟩) rfl (by decide) ?_)))))
                all_goals try (exfalso; first | omega | contradiction)
                all_goals exact stop_go (r_less hj rfl rfl)
              | false =>
                repeat' (first | (refine k_run ?_; (first | (refine r_stopc (A := .region 18 _ _) ?_) | refine r_tr ?_)) | (refine k_tr ?_; (first | (refine kt_end ?_; refine t_end mix (by kernel_rfl) ?_) | refine t_sv rfl (by first | exact rfl | exact ⟨_, rfl, rfl, rfl⟩) (by decide) ?_ | (refine kt_load ?_; (refine t_val (v_loada rfl rfl rfl) (by first | exact rfl | exact ⟨_, rfl, rfl, rfl⟩) rfl rfl (by decide) ?_)) | (refine kt_slice ?_; (first | refine t_val (v_sslicet rfl (by omega) (by omega)) (by first | exact rfl | exact ⟨_, rfl, rfl, rfl⟩) rfl rfl (by decide) ?_ | refine t_val (v_sslicef rfl (by omega) (by omega)) (by first | exact rfl | exact ⟨_, rfl, rfl, rfl⟩) rfl rfl (by decide) ?_)) | (refine kt_call ?_; (first | refine t_fn hma (by first | exact rfl | exact ⟨_, rfl, rfl, rfl⟩) rfl (by decide) ?_ | refine t_fn hmb (by first | exact rfl | exact ⟨_, rfl, rfl, rfl⟩) rfl (by decide) ?_)))))
                all_goals try (exfalso; first | omega | contradiction)
                all_goals exact stop_go (r_less hj rfl rfl)
            | false =>
              repeat' (first | (refine k_run ?_; (first | (refine r_stopc (A := .region 18 _ _) ?_) | refine r_tr ?_)) | (refine k_tr ?_; (first | (refine kt_end ?_; refine t_end mix (by kernel_rfl) ?_) | refine t_pass rfl rfl (by decide) ?_ | refine t_sv rfl (by first | exact rfl | exact ⟨_, rfl, rfl, rfl⟩) (by decide) ?_ | (refine kt_load ?_; (refine t_val (v_loada rfl rfl rfl) (by first | exact rfl | exact ⟨_, rfl, rfl, rfl⟩) rfl rfl (by decide) ?_)) | (refine kt_slice ?_; (refine t_val (v_sslicet rfl (by omega) (by omega)) (by first | exact rfl | exact ⟨_, rfl, rfl, rfl⟩) rfl rfl (by decide) ?_)) | (refine kt_call ?_; (refine t_fn hma (by first | exact rfl | exact ⟨_, rfl, rfl, rfl⟩) rfl (by decide) ?_)))))
              all_goals try (exfalso; first | omega | contradiction)
              all_goals exact stop_go (r_less hj rfl rfl)
        generalize (dv || (ma && mb)) = dv' at *
        clear hmb
        cases bg with
        | true =>
          repeat' (first | (refine k_op1 ?_; (first | refine o_sv rfl (by decide) ?_ | (refine k_bin ?_; (refine o_val (v_add (wi64 (by omega) (by omega))) rfl rfl (by decide) ?_)))) | (refine k_ops ?_; (first | refine o_go (by first | exact .inl rfl | exact .inr ⟨_, _, _, rfl, rfl, rfl⟩) ?_ | refine o_nil ?_)) | (refine k_run ?_; (first | refine r_region ?_ | refine r_tr ?_ | refine r_inBlock ?_)) | (refine k_tr ?_; (first | (refine kt_end ?_; refine t_end mix (by kernel_rfl) ?_) | refine t_pass rfl rfl (by decide) ?_ | refine t_pass2 rfl rfl (by decide) ?_ | refine t_sv rfl (by first | exact rfl | exact ⟨_, rfl, rfl, rfl⟩) (by decide) ?_)))
          all_goals try (exfalso; first | omega | contradiction)
          all_goals exact r_less ihl' rfl rfl
        | false =>
          by_cases hp : 0 < at_
          · rw [decide_eq_true hp] at ihl'
            cases ma with
            | true =>
              cases mk with
              | true =>
                repeat' (first | (refine k_op1 ?_; (first | refine o_sv rfl (by decide) ?_ | (refine k_bin ?_; (refine o_val (v_add (wi64 (by omega) (by omega))) rfl rfl (by decide) ?_)))) | (refine k_ops ?_; (first | refine o_go (by first | exact .inl rfl | exact .inr ⟨_, _, _, rfl, rfl, rfl⟩) ?_ | refine o_nil ?_)) | (refine k_run ?_; (first | refine r_region ?_ | refine r_tr ?_ | refine r_inBlock ?_)) | (refine k_tr ?_; (first | (refine kt_end ?_; refine t_end mix (by kernel_rfl) ?_) | refine t_pass rfl rfl (by decide) ?_ | refine t_sv rfl (by first | exact rfl | exact ⟨_, rfl, rfl, rfl⟩) (by decide) ?_ | (refine kt_load ?_; (first | refine t_val (v_loada rfl rfl rfl) (by first | exact rfl | exact ⟨_, rfl, rfl, rfl⟩) rfl rfl (by decide) ?_ | refine t_val (v_loadp rfl rfl rfl rfl) (by first | exact rfl | exact ⟨_, rfl, rfl, rfl⟩) rfl rfl (by decide) ?_)) | (refine kt_slice ?_; (first | refine t_val (v_sslicet rfl (by omega) (by omega)) (by first | exact rfl | exact ⟨_, rfl, rfl, rfl⟩) rfl rfl (by decide) ?_ | refine t_val (v_sslicef rfl (by omega) (by omega)) (by first | exact rfl | exact ⟨_, rfl, rfl, rfl⟩) rfl rfl (by decide) ?_)) | (refine kt_call ?_; (first | refine t_fn hma (by first | exact rfl | exact ⟨_, rfl, rfl, rfl⟩) rfl (by decide) ?_ | refine t_fn hmk (by first | exact rfl | exact ⟨_, rfl, rfl, rfl⟩) rfl (by decide) ?_)) | (refine t_either rfl rfl (fun hg => ?_) (fun hg => ?_) <;> simp only [hg] <;> (try simp only [decide_eq_true_eq, decide_eq_false_iff_not, Bool.not_eq_true', Bool.not_eq_false'] at hg)))))
                all_goals try (exfalso; first | omega | contradiction)
                all_goals exact r_less ihl' rfl rfl
              | false =>
                repeat' (first | (refine k_op1 ?_; (first | refine o_sv rfl (by decide) ?_ | (refine k_bin ?_; (refine o_val (v_add (wi64 (by omega) (by omega))) rfl rfl (by decide) ?_)))) | (refine k_ops ?_; (first | refine o_go (by first | exact .inl rfl | exact .inr ⟨_, _, _, rfl, rfl, rfl⟩) ?_ | refine o_nil ?_)) | (refine k_run ?_; (first | refine r_region ?_ | refine r_tr ?_ | refine r_inBlock ?_)) | (refine k_tr ?_; (first | (refine kt_end ?_; refine t_end mix (by kernel_rfl) ?_) | refine t_pass rfl rfl (by decide) ?_ | refine t_sv rfl (by first | exact rfl | exact ⟨_, rfl, rfl, rfl⟩) (by decide) ?_ | (refine kt_load ?_; (first | refine t_val (v_loada rfl rfl rfl) (by first | exact rfl | exact ⟨_, rfl, rfl, rfl⟩) rfl rfl (by decide) ?_ | refine t_val (v_loadp rfl rfl rfl rfl) (by first | exact rfl | exact ⟨_, rfl, rfl, rfl⟩) rfl rfl (by decide) ?_)) | (refine kt_slice ?_; (first | refine t_val (v_sslicet rfl (by omega) (by omega)) (by first | exact rfl | exact ⟨_, rfl, rfl, rfl⟩) rfl rfl (by decide) ?_ | refine t_val (v_sslicef rfl (by omega) (by omega)) (by first | exact rfl | exact ⟨_, rfl, rfl, rfl⟩) rfl rfl (by decide) ?_)) | (refine kt_call ?_; (first | refine t_fn hma (by first | exact rfl | exact ⟨_, rfl, rfl, rfl⟩) rfl (by decide) ?_ | refine t_fn hmk (by first | exact rfl | exact ⟨_, rfl, rfl, rfl⟩) rfl (by decide) ?_)) | (refine t_either rfl rfl (fun hg => ?_) (fun hg => ?_) <;> simp only [hg] <;> (try simp only [decide_eq_true_eq, decide_eq_false_iff_not, Bool.not_eq_true', Bool.not_eq_false'] at hg)))))
                all_goals try (exfalso; first | omega | contradiction)
                all_goals exact r_less ihl' rfl rfl
            | false =>
              repeat' (first | (refine k_op1 ?_; (first | refine o_sv rfl (by decide) ?_ | (refine k_bin ?_; (refine o_val (v_add (wi64 (by omega) (by omega))) rfl rfl (by decide) ?_)))) | (refine k_ops ?_; (first | refine o_go (by first | exact .inl rfl | exact .inr ⟨_, _, _, rfl, rfl, rfl⟩) ?_ | refine o_nil ?_)) | (refine k_run ?_; (first | refine r_region ?_ | refine r_tr ?_ | refine r_inBlock ?_)) | (refine k_tr ?_; (first | (refine kt_end ?_; refine t_end mix (by kernel_rfl) ?_) | refine t_pass rfl rfl (by decide) ?_ | refine t_sv rfl (by first | exact rfl | exact ⟨_, rfl, rfl, rfl⟩) (by decide) ?_ | (refine kt_load ?_; (refine t_val (v_loada rfl rfl rfl) (by first | exact rfl | exact ⟨_, rfl, rfl, rfl⟩) rfl rfl (by decide) ?_)) | (refine kt_slice ?_; (refine t_val (v_sslicet rfl (by omega) (by omega)) (by first | exact rfl | exact ⟨_, rfl, rfl, rfl⟩) rfl rfl (by decide) ?_)) | (refine kt_call ?_; (refine t_fn hma (by first | exact rfl | exact ⟨_, rfl, rfl, rfl⟩) rfl (by decide) ?_)) | (refine t_either rfl rfl (fun hg => ?_) (fun hg => ?_) <;> simp only [hg] <;> (try simp only [decide_eq_true_eq, decide_eq_false_iff_not, Bool.not_eq_true', Bool.not_eq_false'] at hg)))))
              all_goals try (exfalso; first | omega | contradiction)
              all_goals exact r_less ihl' rfl rfl
          · rw [decide_eq_false hp] at ihl'
            repeat' (first | (refine k_op1 ?_; (first | refine o_sv rfl (by decide) ?_ | (refine k_bin ?_; (refine o_val (v_add (wi64 (by omega) (by omega))) rfl rfl (by decide) ?_)))) | (refine k_ops ?_; (first | refine o_go (by first | exact .inl rfl | exact .inr ⟨_, _, _, rfl, rfl, rfl⟩) ?_ | refine o_nil ?_)) | (refine k_run ?_; (first | refine r_region ?_ | refine r_tr ?_ | refine r_inBlock ?_)) | (refine k_tr ?_; (first | (refine kt_end ?_; refine t_end mix (by kernel_rfl) ?_) | refine t_pass rfl rfl (by decide) ?_ | refine t_sv rfl (by first | exact rfl | exact ⟨_, rfl, rfl, rfl⟩) (by decide) ?_ | (refine kt_load ?_; (first | refine t_val (v_loada rfl rfl rfl) (by first | exact rfl | exact ⟨_, rfl, rfl, rfl⟩) rfl rfl (by decide) ?_ | refine t_val (v_loadp rfl rfl rfl rfl) (by first | exact rfl | exact ⟨_, rfl, rfl, rfl⟩) rfl rfl (by decide) ?_)) | (refine kt_slice ?_; (first | refine t_val (v_sslicet rfl (by omega) (by omega)) (by first | exact rfl | exact ⟨_, rfl, rfl, rfl⟩) rfl rfl (by decide) ?_ | refine t_val (v_sslicef rfl (by omega) (by omega)) (by first | exact rfl | exact ⟨_, rfl, rfl, rfl⟩) rfl rfl (by decide) ?_)) | (refine kt_call ?_; (first | refine t_fn hma (by first | exact rfl | exact ⟨_, rfl, rfl, rfl⟩) rfl (by decide) ?_ | refine t_fn hmk (by first | exact rfl | exact ⟨_, rfl, rfl, rfl⟩) rfl (by decide) ?_)) | (refine t_either rfl rfl (fun hg => ?_) (fun hg => ?_) <;> simp only [hg] <;> (try simp only [decide_eq_true_eq, decide_eq_false_iff_not, Bool.not_eq_true', Bool.not_eq_false'] at hg)))))
            all_goals try (exfalso; first | omega | contradiction)
            all_goals exact r_less ihl' rfl rfl
      · obtain rfl : i = L + 1 := by omega
        have hMks := hMk s (by omega)
        clear ihl hgt hge hall hat hMa hMb hMk hVa hVb hVl hb hn
        rw [← i2] at halgc
        rw [← i3] at halgk
        clear i2 i3
        repeat' (first | (refine k_op1 ?_; (first | refine o_sv rfl (by decide) ?_ | (refine k_call ?_; (refine o_fn hco rfl (by decide) ?_)))) | (refine k_ops ?_; (first | refine o_go (by first | exact .inl rfl | exact .inr ⟨_, _, _, rfl, rfl, rfl⟩) ?_ | refine o_nil ?_)) | (refine k_run ?_; (first | (refine r_stop (A := .seq (.region 19 _ _) _) ?_) | refine r_seq ?_ | refine r_region ?_ | refine r_skip ?_ | refine r_block ?_ | refine r_if rfl (fun _ => ?_) (fun _ => ?_) | refine r_exit rfl ?_)))
        all_goals try (exfalso; first | omega | contradiction)
        refine stop_go (r_cut (st0 := ⟨160, [(2, S s), (11, B bg), (3, .ptr (0, 3) 0), (4, .ptr (0, 4) 0), (8, .ptr (0, 8) 0), (9, .ptr (0, 9) 0), (100700, .al (0, 700) (1, 700)), (100701, .al (0, 701) (1, 701))], [(3, .box ((rx5 o1 n1 x1 rs1 ks1).map .d)), (4, .box ((rx5 o2 n2 x2 rs2 ks2).map .d)), (8, .box ([.d (Dint 2), .d (Dint 0), .d (Dint 0), .d (.lit nilS), .d (.slice [rx5 o1 n1 x1 rs1 ks1, rx5 o2 n2 x2 rs2 ks2])])), (9, .box ([.d (Dint 4), .d (Dint 0), .d (Dint (-1)), .d (.lit nilS), .d (.slice [rx5 o1 n1 x1 rs1 ks1])])), (700, .glob 0 τ.o0), (701, .glob 1 τ.o1)], upd (upd H (0, 700) .gone) (0, 701) .gone⟩) ?_ (fun hj => ?_))
        rotate_left
        · by_cases hc : val (catR a b) = 0
          · rw [halgc hc] at hMc
            rw [hc] at hVc
            cases dv with
            | true =>
              repeat' (first | (refine k_op1 ?_; (first | refine o_sv rfl (by decide) ?_ | (refine k_load ?_; (refine o_val (v_loadp rfl rfl rfl rfl) rfl rfl (by decide) ?_)) | (refine k_bin ?_; (refine o_val (v_bneq rfl) rfl rfl (by decide) ?_)) | (refine k_call ?_; (first | refine o_fn hVc rfl (by decide) ?_ | refine o_fn hMc rfl (by decide) ?_)))) | (refine k_ops ?_; (first | refine o_go (by first | exact .inl rfl | exact .inr ⟨_, _, _, rfl, rfl, rfl⟩) ?_ | refine o_nil ?_)) | (refine k_run ?_; (first | (refine r_stop (A := .region 21 _ _) ?_) | refine r_seq ?_ | refine r_region ?_ | refine r_false rfl ?_ | refine r_skip ?_)))
              all_goals try (exfalso; first | omega | contradiction)
              all_goals exact stop_go (r_less hj rfl rfl)
            | false =>
              repeat' (first | (refine k_op1 ?_; (first | refine o_sv rfl (by decide) ?_ | (refine k_load ?_; (refine o_val (v_loadp rfl rfl rfl rfl) rfl rfl (by decide) ?_)) | (refine k_bin ?_; (refine o_val (v_bneq rfl) rfl rfl (by decide) ?_)) | (refine k_call ?_; (first | refine o_fn hVc rfl (by decide) ?_ | refine o_fn hMc rfl (by decide) ?_)))) | (refine k_ops ?_; (first | refine o_go (by first | exact .inl rfl | exact .inr ⟨_, _, _, rfl, rfl, rfl⟩) ?_ | refine o_nil ?_)) | (refine k_run ?_; (first | (refine r_stop (A := .region 21 _ _) ?_) | refine r_seq ?_ | refine r_region ?_ | refine r_false rfl ?_ | refine r_skip ?_)))
              all_goals try (exfalso; first | omega | contradiction)
              all_goals exact stop_go (r_less hj rfl rfl)
          · generalize val (catR a b) = vc at *
            repeat' (first | (refine k_op1 ?_; (first | refine o_sv rfl (by decide) ?_ | (refine k_load ?_; (refine o_val (v_loadp rfl rfl rfl rfl) rfl rfl (by decide) ?_)) | (refine k_call ?_; (refine o_fn hVc rfl (by decide) ?_)))) | (refine k_ops ?_; (first | refine o_go (by first | exact .inl rfl | exact .inr ⟨_, _, _, rfl, rfl, rfl⟩) ?_ | refine o_nil ?_ | refine o_no rfl rfl (by decide) ?_ | refine o_casep rfl rfl (fun _ => ?_) (fun _ => ?_))) | (refine k_run ?_; (first | (refine r_stop (A := .region 21 _ _) ?_) | refine r_seq ?_ | refine r_region ?_ | refine r_false rfl ?_ | refine r_skip ?_)))
            all_goals try (exfalso; first | omega | contradiction)
            all_goals exact stop_go (r_less hj rfl rfl)
        clear hVc hMc
        by_cases hk : val (rpt 0 (-1) a) = 0
        · rw [halgk hk] at hMks
          rw [hk] at hVk
          cases bg with
          | true =>
            repeat' (first | (refine k_op1 ?_; (first | refine o_sv rfl (by decide) ?_ | (refine k_load ?_; (refine o_val (v_loadp rfl rfl rfl rfl) rfl rfl (by decide) ?_)) | (refine k_bin ?_; (refine o_val (v_beql rfl) rfl rfl (by decide) ?_)) | (refine k_call ?_; (first | refine o_effd ha rfl rfl (by decide) ?_ | refine o_fn hVk rfl (by decide) ?_ | refine o_fn hMks rfl (by decide) ?_)))) | (refine k_ops ?_; (first | refine o_go (by first | exact .inl rfl | exact .inr ⟨_, _, _, rfl, rfl, rfl⟩) ?_ | refine o_nil ?_)) | (refine k_run ?_; (first | refine r_seq ?_ | refine r_region ?_)))
            all_goals try (exfalso; first | omega | contradiction)
            all_goals refine r_give 700 0 700 (raw := .glob 0 τ.o0) rfl rfl (upd_ne (upd_same _ (0, 700) _) (by simp)) rfl rfl ?_
            all_goals refine r_give 701 0 701 (raw := .glob 1 τ.o1) rfl rfl (upd_ne (upd_same _ (0, 701) _) (by simp)) rfl rfl ?_
            all_goals exact r_ret Tryd.func7 _ (res_one rfl rfl) ⟨rfl, tabs_back hX0 hX1⟩
          | false =>
            repeat' (first | (refine k_op1 ?_; (first | refine o_sv rfl (by decide) ?_ | (refine k_load ?_; (refine o_val (v_loadp rfl rfl rfl rfl) rfl rfl (by decide) ?_)) | (refine k_bin ?_; (refine o_val (v_beql rfl) rfl rfl (by decide) ?_)) | (refine k_call ?_; (first | refine o_effd ha rfl rfl (by decide) ?_ | refine o_fn hVk rfl (by decide) ?_ | refine o_fn hMks rfl (by decide) ?_)))) | (refine k_ops ?_; (first | refine o_go (by first | exact .inl rfl | exact .inr ⟨_, _, _, rfl, rfl, rfl⟩) ?_ | refine o_nil ?_)) | (refine k_run ?_; (first | refine r_seq ?_ | refine r_region ?_)))
            all_goals try (exfalso; first | omega | contradiction)
            all_goals refine r_give 700 0 700 (raw := .glob 0 τ.o0) rfl rfl (upd_ne (upd_same _ (0, 700) _) (by simp)) rfl rfl ?_
            all_goals refine r_give 701 0 701 (raw := .glob 1 τ.o1) rfl rfl (upd_ne (upd_same _ (0, 701) _) (by simp)) rfl rfl ?_
            all_goals exact r_ret Tryd.func7 _ (res_one rfl rfl) ⟨rfl, tabs_back hX0 hX1⟩
        · generalize val (rpt 0 (-1) a) = vk at *
          repeat' (first | (refine k_op1 ?_; (first | refine o_sv rfl (by decide) ?_ | (refine k_load ?_; (refine o_val (v_loadp rfl rfl rfl rfl) rfl rfl (by decide) ?_)) | (refine k_call ?_; (first | refine o_effd ha rfl rfl (by decide) ?_ | refine o_fn hVk rfl (by decide) ?_)))) | (refine k_ops ?_; (first | refine o_go (by first | exact .inl rfl | exact .inr ⟨_, _, _, rfl, rfl, rfl⟩) ?_ | refine o_nil ?_ | refine o_no rfl rfl (by decide) ?_ | refine o_casen rfl rfl (fun _ => ?_) (fun _ => ?_))) | (refine k_run ?_; (first | refine r_seq ?_ | refine r_region ?_)))
          all_goals try (exfalso; first | omega | contradiction)
          all_goals refine r_give 700 0 700 (raw := .glob 0 τ.o0) rfl rfl (upd_ne (upd_same _ (0, 700) _) (by simp)) rfl rfl ?_
          all_goals refine r_give 701 0 701 (raw := .glob 1 τ.o1) rfl rfl (upd_ne (upd_same _ (0, 701) _) (by simp)) rfl rfl ?_
          all_goals exact r_ret Tryd.func7 _ (res_one rfl rfl) ⟨rfl, tabs_back hX0 hX1⟩
end Go.Proofs.YtjmbjgecfpggdaaDoor
