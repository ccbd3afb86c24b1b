/- What the index answers, for every input. -/
import Derived.Test.YtiapeheclfkdmaaWe
import Derived.Test.YtiapeheclfkdmaaFg
set_option linter.all false
set_option linter.unusedVariables false
set_option linter.unusedSimpArgs false
namespace Go.Proofs.Ytiapeheclfkdmaa
open Go.Ab Go.Stab
set_option maxHeartbeats 20000000
set_option maxRecDepth 100000
set_option linter.unusedVariables false
set_option linter.unusedSectionVars false
set_option linter.unusedSimpArgs false
attribute [local irreducible] Run Ops Op1 Does Val Tr PureF Eff1 NF Rel EffV EffM

variable {X : Nat} [hX : XOk X]
theorem upd_push1 {hp : Hp} {up : Hf} (c : Nat) {q : Blk} : upd (push hp up) (0, c) q = push ((c, q) :: hp) up := by
  funext d s
  cases d with
  | zero =>
    simp only [upd, push, Ab.look, true_and]
    by_cases h1 : s = c
    · rw [if_pos h1, if_pos h1.symm]
    · rw [if_neg h1, if_neg (Ne.symm h1)]
  | succ d => simp [upd, push]
theorem quietHp_but {m : Nm} (k : Nat) : ∀ {hp : Hp} {t : Nat} {b : Blk}, quietHp m (hp.filter fun q => !(q.1 == k)) = true → Ab.look hp t = some b → t ≠ k → b.says m = false
  | [], t, b, _, h, _ => by simp [Ab.look] at h
  | (x, q) :: r, t, b, hq, h, hn => by
    simp only [Ab.look] at h
    by_cases hx : x = k
    · subst hx
      simp only [List.filter, beq_self_eq_true, Bool.not_true] at hq
      rw [if_neg (Ne.symm hn)] at h
      exact quietHp_but x hq h hn
    · have : (!(x == k)) = true := by simpa using hx
      simp only [List.filter, this, quietHp, Bool.and_eq_true, Bool.not_eq_true'] at hq
      split at h
      · simp at h; subst h; exact hq.1
      · exact quietHp_but k hq.2 h hn
theorem run_to {P : Program} {f : FuncId} {R : Post} {k : List Item} {n : Nat} {tm tm' : List (Nat × PV)} {hp hp' : Hp} {up : Hf} (ht : tm = tm') (hh : hp = hp') (h : Run P f R k ⟨n, tm', hp', up⟩) : Run P f R k ⟨n, tm, hp, up⟩ := by subst ht hh; exact h
/-- what keeps a span, captured from the caller's frame or not -/
structure KeepS (g : FuncId) (cap : Nat → List PV) (s : Span) (kp : Span → Bool) : Prop where
  lift : ∀ j k, PV.liftL k (cap j) = cap (j + k)
  says : ∀ j m x, x ≠ 3 → PV.saysL (m, x) (cap j) = false
  spec : ∀ (j : Nat) (H : Hf) (t : Span), H j 3 = some (.box ((spc s).map .d)) → Ab.Spec Try.prog g (.d (Dsp t) :: cap j) H (fun r H' => r = .v (B (kp t)) ∧ H' = H)
noncomputable def lpAsg : Code := match Try.f28.body with | some (.seq _ (.seq _ (.seq _ (.seq (.seq _ (.block _ (.rangeFunc _ _ a _))) _)))) => a | _ => .skip
noncomputable def lpBody : Code := match Try.f28.body with | some (.seq _ (.seq _ (.seq _ (.seq (.seq _ (.block _ (.rangeFunc _ _ _ b))) _)))) => b | _ => .skip
def lpSt : List (Nat × PV) := [(3, .ptr (0, 3) 0), (5, .ptr (0, 5) 0), (7, .ptr (0, 7) 0)]
noncomputable def lpB (state : LoopState) : Blk := .lp 33 28 #[16] lpAsg lpBody lpSt state none
structure GoodF (X : Nat) (l : List Span) (s : Span) (g : FuncId) (cap : Nat → List PV) (e0 : Nat) (d e : Nat) (H : Hf) (o : List Nat) : Prop where
  he : e = e0 + 1 + d
  lp : H d 999 = some (lpB .ready)
  row : H d 1000 = some (orow o)
  out : H d 7 = some (.box [.ref (0, 1000)])
  x : H d 3 = some (.box [.ptr (e0 + 1, X) 0])
  k : H d 5 = some (.box [.fn (.func g) [] (PV.liftL 1 (cap 0))])
  kb : H (d + 1) 3 = some (.box ((spc s).map .d))
  box : H e X = some (xbox l)
  small : o.length ≤ 4096
  quiet : ∀ e t b, e ≤ d → ¬ (e = d ∧ t = 7) → H e t = some b → b.says (d - e, 1000) = false
theorem find_round (l : List Span) (s : Span) (g : FuncId) (cap : Nat → List PV) (kp : Span → Bool) (hk : KeepS g cap s kp) (e0 : Nat) {d e : Nat} {H : Hf} {o : List Nat} (hlen : l.length ≤ 4096) (i : Nat) (hG : GoodF X l s g cap e0 d e H o) (hi : i < l.length) :
    SpecY Try.prog (d, 999) [I .i64 (i : Nat)] H (fun r H' => r = .v (B true) ∧ H' = upd H (d, 1000) (orow (o ++ if kp (l.getD i (0, 0)) then [i] else []))) (fun x => x = (d, 1000)) := by
  obtain ⟨t, ht⟩ : ∃ t, l[i]? = some t := ⟨_, List.getElem?_eq_getElem hi⟩
  have hol := hG.small
  have hgt : (l.getD i (0, 0)) = t := getD_some ht
  rw [hgt]
  refine y_of (n' := 33) (f' := 28) (t0 := 16) (asg := lpAsg) (body := lpBody) (st := lpSt) (pend := none) (R2 := fun r H' => r = .v (B true) ∧ H' = upd (upd H (d, 999) (lpB .busy)) (d, 1000) (orow (o ++ if kp t then [i] else []))) hG.lp (by decide) (by simp) ?_ ?_ ?_ ?_
  · rw [show liftTm (d + 1) lpSt = [(3, .ptr (d + 1, 3) 0), (5, .ptr (d + 1, 5) 0), (7, .ptr (d + 1, 7) 0)] by simp [lpSt, liftTm, PV.lift]]
    have he := hG.he
    subst he
    dsimp only [lpAsg, lpBody, Try.f28]
    have hb1 : upd H (d, 999) (lpB .busy) d 5 = some _ := upd_ne hG.k (by simp)
    have hb2 : upd H (d, 999) (lpB .busy) d 3 = some _ := upd_ne hG.x (by simp)
    have hb3 : upd H (d, 999) (lpB .busy) (e0 + 1 + d) X = some _ := upd_ne hG.box (by simp)
    have hb4 : upd H (d, 999) (lpB .busy) d 7 = some _ := upd_ne hG.out (by simp)
    have hb5 : upd H (d, 999) (lpB .busy) d 1000 = some _ := upd_ne hG.row (by simp)
    have hb6 : upd H (d, 999) (lpB .busy) (d + 1) 3 = some _ := upd_ne hG.kb (by simp)
    have hkc : ∀ (V : Hf) (hp : Hp), V (d + 1) 3 = some (.box ((spc s).map .d)) → Ab.Spec Try.prog g ([] ++ [.d (Dsp t)] ++ PV.liftL (d + 1) (PV.liftL 1 (cap 0))) (push hp V) (fun r H' => r = .v (B (kp t)) ∧ H' = push hp V) := fun V hp hV => by
      rw [hk.lift, hk.lift]
      refine hk.spec (0 + 1 + (d + 1)) _ t ?_
      show V (0 + 1 + d) 3 = _
      rw [show 0 + 1 + d = d + 1 by omega]; exact hV
    repeat' (first | (refine k_op1 ?_; (refine o_sv rfl (by decide) ?_)) | (refine k_ops ?_; (first | refine o_go (by first | exact .inl rfl | exact .inr ⟨_, _, _, rfl, rfl, rfl⟩) ?_ | refine o_nil ?_)) | (refine k_run ?_; (refine r_region ?_)))
    refine r_begin rfl hG.lp ?_
    change Run _ _ _ _ ⟨_, _, _, upd H (d, 999) (lpB .busy)⟩
    cases hkp : kp t with
    | false =>
      rw [hkp] at hkc
      repeat' (first | (refine k_op1 ?_; (refine o_specc [] (PV.liftL (d + 1) (PV.liftL 1 (cap 0))) [.d (Dsp t)] (hkc _ _ hb6) rfl rfl (by decide) ?_)) | (refine k_ops ?_; (first | refine o_go (by first | exact .inl rfl | exact .inr ⟨_, _, _, rfl, rfl, rfl⟩) ?_ | refine o_nil ?_)) | (refine k_run ?_; (first | refine r_seq ?_ | refine r_false rfl ?_ | refine r_skip ?_ | refine r_block ?_ | refine r_tr ?_ | refine r_inBlock ?_)) | (refine k_tr ?_; (first | refine t_sv rfl (by first | exact rfl | exact ⟨_, rfl, rfl, rfl⟩) (by decide) ?_ | (refine kt_load ?_; (first | refine t_val (v_load (b := .box [.fn (.func g) [] (PV.liftL 1 (cap 0))]) rfl rfl rfl rfl) (by first | exact rfl | exact ⟨_, rfl, rfl, rfl⟩) rfl (bkN hb1) (by decide) ?_ | refine t_val (v_load (b := .box [.ptr (e0 + 1, X) 0]) rfl rfl rfl rfl) (by first | exact rfl | exact ⟨_, rfl, rfl, rfl⟩) rfl (bkN hb2) (by decide) ?_ | refine t_val (v_load (b := xbox l) rfl rfl rfl rfl) (by first | exact rfl | exact ⟨_, rfl, rfl, rfl⟩) rfl (bkN hb3) (by decide) ?_ | refine t_val (v_loadea rfl rfl) (by first | exact rfl | exact ⟨_, rfl, rfl, rfl⟩) rfl rfl (by decide) ?_)) | (refine kt_field ?_; (refine t_val (v_field rfl rfl) (by first | exact rfl | exact ⟨_, rfl, rfl, rfl⟩) rfl rfl (by decide) ?_)) | (refine kt_index ?_; (refine t_val (v_index (ys := l.map spc) rfl (by omega) (idx ht) rfl) (by first | exact rfl | exact ⟨_, rfl, rfl, rfl⟩) rfl rfl (by decide) ?_)) | (refine kt_call ?_; ((refine t_tail mix (by kernel_rfl) ?_) /- t_call -/)))))
      refine r_round rfl ⟨rfl, ?_⟩
      show upd H (d, 999) (lpB .busy) = upd (upd H (d, 999) (lpB .busy)) (d, 1000) _
      simp only [Bool.false_eq_true, if_false, List.append_nil]
      exact (upd_id (m := (d, 1000)) hb5).symm
    | true =>
      rw [hkp] at hkc
      obtain ⟨U, hU⟩ : ∃ U, upd H (d, 999) (lpB .busy) = U := ⟨_, rfl⟩
      rw [hU] at hb1 hb2 hb3 hb4 hb5 hb6 ⊢
      refine r_less (tm' := [(8, I .i64 (i : Nat)), (3, .ptr (d + 1, 3) 0), (5, .ptr (d + 1, 5) 0), (7, .ptr (d + 1, 7) 0)]) (hp' := []) ?_ rfl rfl
      refine r_take 700 d 7 hb4 rfl rfl ?_
      refine run_to (tm' := [(100700, .al (0, 700) (d + 1, 7)), (8, I .i64 (i : Nat)), (3, .ptr (d + 1, 3) 0), (5, .ptr (d + 1, 5) 0), (7, .ptr (0, 700) 0)]) (hp' := [(700, .box [.ref (d + 1, 1000)])]) (by simp [takeTm, PV.take]) (by simp [Blk.lift, PV.liftL, PV.lift]) ?_
      refine r_taker 701 d 1000 (upd_ne hb5 (by simp)) rfl rfl ?_
      refine run_to (tm' := [(100701, .al (0, 701) (d + 1, 1000)), (100700, .al (0, 700) (d + 1, 7)), (8, I .i64 (i : Nat)), (3, .ptr (d + 1, 3) 0), (5, .ptr (d + 1, 5) 0), (7, .ptr (0, 700) 0)]) (hp' := [(701, orow o), (700, .box [.ref (d + 1, 1000)])]) (by simp [takerTm, PV.taker]) (by simp [Blk.lift, PV.liftL, PV.lift]) ?_
      refine r_alias 100701 rfl ?_
      refine run_to rfl (hp' := [(701, orow o), (700, .box [.ref (0, 701)])]) (by simp [aliasHp, Blk.alias, aliasL, PV.alias]) ?_
      obtain ⟨V, hV⟩ : ∃ V, upd (upd U (d, 7) .gone) (d, 1000) .gone = V := ⟨_, rfl⟩
      have key : ∀ {e t : Nat} {b : Blk}, U e t = some b → ¬ (e = d ∧ t = 7) → ¬ (e = d ∧ t = 1000) → V e t = some b := fun h h1 h2 => by rw [← hV]; exact upd_ne (upd_ne h h1) h2
      have v1 := key hb1 (by simp) (by simp)
      have v2 := key hb2 (by simp) (by simp)
      have v3 := key hb3 (by simp) (by simp)
      have v6 := key hb6 (by simp) (by simp)
      have v7 : V d 7 = some .gone := by rw [← hV]; exact upd_ne (upd_same _ (d, 7) _) (by simp)
      have v8 : V d 1000 = some .gone := by rw [← hV]; exact upd_same _ (d, 1000) _
      rw [hV]
      repeat' (first | (refine k_op1 ?_; (first | refine o_specc [] (PV.liftL (d + 1) (PV.liftL 1 (cap 0))) [.d (Dsp t)] (hkc _ _ v6) rfl rfl (by decide) ?_ | refine o_sv rfl (by decide) ?_ | (refine k_load ?_; (refine o_val (v_load rfl rfl rfl rfl) rfl rfl (by decide) ?_)) | (refine k_blt ?_; (refine o_app1 (g := fun i : Nat => [Dint (i : Nat)]) rfl rfl i rfl rfl rfl rfl rfl rfl (by simp [freeHp, freeTm, Blk.says, PV.says, PV.saysL, PV.lift, PV.liftL, hk.lift, hk.says, spans]) (by decide) (by omega) ?_)) | (refine k_store ?_; (refine o_store0 rfl rfl rfl rfl rfl rfl ?_)) | (refine k_lit ?_; (refine o_lit rfl rfl rfl rfl rfl rfl rfl rfl (by decide) ?_)))) | (refine k_ops ?_; (first | refine o_go (by first | exact .inl rfl | exact .inr ⟨_, _, _, rfl, rfl, rfl⟩) ?_ | refine o_nil ?_)) | (refine k_run ?_; (first | refine r_seq ?_ | refine r_region ?_ | refine r_true rfl ?_ | refine r_block ?_ | refine r_tr ?_ | refine r_inBlock ?_)) | (refine k_tr ?_; (first | refine t_sv rfl (by first | exact rfl | exact ⟨_, rfl, rfl, rfl⟩) (by decide) ?_ | (refine kt_load ?_; (first | refine t_val (v_load (b := .box [.fn (.func g) [] (PV.liftL 1 (cap 0))]) rfl rfl rfl rfl) (by first | exact rfl | exact ⟨_, rfl, rfl, rfl⟩) rfl (bkN v1) (by decide) ?_ | refine t_val (v_load (b := .box [.ptr (e0 + 1, X) 0]) rfl rfl rfl rfl) (by first | exact rfl | exact ⟨_, rfl, rfl, rfl⟩) rfl (bkN v2) (by decide) ?_ | refine t_val (v_load (b := xbox l) rfl rfl rfl rfl) (by first | exact rfl | exact ⟨_, rfl, rfl, rfl⟩) rfl (bkN v3) (by decide) ?_ | refine t_val (v_loadea rfl rfl) (by first | exact rfl | exact ⟨_, rfl, rfl, rfl⟩) rfl rfl (by decide) ?_)) | (refine kt_field ?_; (refine t_val (v_field rfl rfl) (by first | exact rfl | exact ⟨_, rfl, rfl, rfl⟩) rfl rfl (by decide) ?_)) | (refine kt_index ?_; (refine t_val (v_index (ys := l.map spc) rfl (by omega) (idx ht) rfl) (by first | exact rfl | exact ⟨_, rfl, rfl, rfl⟩) rfl rfl (by decide) ?_)) | (refine kt_call ?_; ((refine t_tail mix (by kernel_rfl) ?_) /- t_call -/)))))
      refine r_less (tm' := [(100700, .al (0, 700) (d + 1, 7))]) (hp' := [(700, .box [.ref (0, 29)]), (29, orow (o ++ [i]))]) ?_ rfl rfl
      have hqV : QuietM V (d, 1000) := by
        intro x y b hx hb
        rw [← hV, ← hU] at hb
        simp only [upd] at hb
        split at hb
        · simp at hb; subst hb; rfl
        rename_i n1
        split at hb
        · simp at hb; subst hb; rfl
        rename_i n2
        split at hb
        · simp at hb; subst hb; simp [lpB, Blk.says, saysTm, lpSt, PV.says]
        · exact hG.quiet x y b hx n2 hb
      refine r_givem 29 d 1000 rfl v8 rfl (by simp [quietHp, Blk.says, PV.says, PV.saysL]) hqV ?_
      refine run_to (tm' := [(100700, .al (0, 700) (d + 1, 7))]) (hp' := [(29, .gone), (700, .box [.ref (d + 1, 1000)]), (29, orow (o ++ [i]))]) (by simp [dropTm, PV.says]) (by simp [aliasHp, Blk.alias, aliasL, PV.alias]) ?_
      refine r_give 700 d 7 (raw := .box [.ref (0, 1000)]) rfl rfl (upd_ne v7 (by simp)) rfl (by simp [Blk.lift, PV.liftL, PV.lift]) ?_
      refine r_round rfl ⟨rfl, ?_⟩
      show upd (upd V (d, 1000) (orow (o ++ [i]))) (d, 7) (.box [.ref (0, 1000)]) = upd U (d, 1000) _
      simp only [if_true]
      rw [← hV, upd_upd, upd_swap (by simp), upd_upd, upd_id (m := (d, 7)) hb4]
  · rintro H' ⟨_, rfl⟩
    refine ⟨lpSt, none, upd_ne (upd_same _ _ _) (by simp), rfl, ?_⟩
    rw [upd_swap (by simp), upd_upd, upd_id (m := (d, 999))]
    exact hG.lp
  · rintro H' ⟨h, _⟩; cases h
  · rintro id H' ⟨h, _⟩; cases h
theorem findW (l : List Span) (s : Span) (g : FuncId) (cap : Nat → List PV) (kp : Span → Bool) (hk : KeepS g cap s kp) (e0 : Nat) (hlen : l.length ≤ 4096) : GoodW X l s (fun i => kp (l.getD i (0, 0))) 999 (GoodF X l s g cap e0) where
  down {d e H o} hp hG hq := {
    he := by have := hG.he; omega
    lp := hG.lp
    row := hG.row
    out := hG.out
    x := hG.x
    k := hG.k
    kb := hG.kb
    box := hG.box
    small := hG.small
    quiet := fun x t b hx hn hb => by
      cases x with
      | zero => exact quietHp_get hq hb
      | succ x => have := hG.quiet x t b (by omega) (by omega) hb; simpa [Nat.add_sub_add_right] using this }
  next {d e H o} o' hG hl := {
    he := hG.he
    lp := upd_ne hG.lp (by simp)
    row := upd_same _ (d, 1000) _
    out := upd_ne hG.out (by simp)
    x := upd_ne hG.x (by simp)
    k := upd_ne hG.k (by simp)
    kb := upd_ne hG.kb (by simp)
    box := upd_ne hG.box (by simp [hX.ne])
    small := hl
    quiet := fun x t b hx hn hb => by
      simp only [upd] at hb
      split at hb
      · simp at hb; subst hb; rfl
      · exact hG.quiet x t b hx hn hb }
  box hG := hG.box
  row hG := hG.row
  yld i hG hi := find_round l s g cap kp hk e0 hlen i hG hi
theorem sort_s (x : Nat) (q : List Int) (hq : q.length < 4611686018427387904) : Eff1 Try.prog 52 [.ref (0, x)] [((0, x), .row 3 1 (q.map fun x => [.lit (.int .i64 x)]))] [((0, x), .row 3 1 ((q.mergeSort fun x y => decide (x ≤ y)).map fun x => [.lit (.int .i64 x)]))] (.tup []) :=
  eff_sort ⟨_, Try.func52, by decide, rfl⟩ (fun blk off cap zs w h1 h2 h3 => sort_int blk off cap zs w h1 h2 h3) (fun p cap w => sort_int_none p cap w) x q hq
theorem find_s (l : List Span) (s : Span) (g : FuncId) (cap : Nat → List PV) (kp : Span → Bool) (hk : KeepS g cap s kp) (e0 : Nat) (hlen : l.length ≤ 4096) (hoks : okS s = true) (H : Hf) (hx : H e0 X = some (xbox l)) (hb : H 0 3 = some (.box ((spc s).map .d))) :
    Ab.Spec Try.prog 28 [.ptr (e0, X) 0, .d (Dsp s), .fn (.func g) [] (cap 0)] H (fun r H' => r = .v (.d (nats ((List.range l.length).filter fun i => ov l s i && kp (l.getD i (0, 0))))) ∧ H' = H) := by
  refine spec_of Try.func28 (by kernel_rfl) rfl (by simp) ?_
  dsimp only [Try.f28]
  have hv := rel_s s s
  rw [rel_self, hoks, if_neg (by simp)] at hv
  refine r_forget 901 ?_
  refine r_forget 902 ?_
  have hc1 : ∀ x, PV.saysL (0, x) (PV.liftL 1 (cap 0)) = false := fun x => by
    have := PV.lift_says x 0 (.fn (.func g) [] (cap 0))
    simpa [PV.lift, PV.liftL, PV.says, PV.saysL] using this
  have h51 : ∀ (hp : Hp), Ab.look hp 901 = some Blk.gone → Ab.look hp 902 = some Blk.gone → quietHp (0, 901) hp = true → quietHp (0, 902) hp = true → SpecV Try.prog 51 [.ptr (e0 + 1, X) 0, .d (Dsp s)] (push hp H) ⟨fun r H' => r = .v (.fn (.func 59) [] [.ptr (0, 901) 0, .ptr (0, 902) 0]) ∧ H' = push ((902, .box ((spc s).map .d)) :: (901, .box [.ptr (e0 + 1, X) 0]) :: hp) H, fun x => x = (0, 901) ∨ x = (0, 902), none⟩ := fun hp h1 h2 q1 q2 => by
    have qq : ∀ x, quietHp (0, x) hp = true → QuietM (push hp H) (0, x) := fun x q e t b he hb => by
      obtain rfl : e = 0 := by simp at he; omega
      exact quietHp_get q hb
    have := ovl_s (X := X) s (e0 + 1) (push hp H) h1 h2 (qq 901 q1) (qq 902 q2)
    rw [upd_push1, upd_push1] at this
    exact this
  repeat' (first | (refine k_op1 ?_; (first | refine o_spec2 (h51 _ rfl rfl (by simp [quietHp, Blk.says, PV.says, PV.saysL, hc1, PV.lift, PV.liftL, spc, zeroP_says, hX.n1, hX.n2]) (by simp [quietHp, Blk.says, PV.says, PV.saysL, hc1, PV.lift, PV.liftL, spc, zeroP_says, hX.n1, hX.n2])) rfl (by simp [saysTm, PV.says, PV.saysL, PV.lift, PV.liftL, argTm, hc1]) (by simp [saysTm, PV.says, PV.saysL, PV.lift, PV.liftL, argTm, hc1]) (by decide) ?_ | refine o_sv rfl (by decide) ?_ | (refine k_load ?_; (first | refine o_val (v_loada rfl rfl rfl) rfl rfl (by decide) ?_ | refine o_val (v_load rfl rfl rfl rfl) rfl rfl (by decide) ?_)) | (refine k_call ?_; (refine o_fn hv rfl (by decide) ?_)) | (refine k_alloc ?_; (refine o_does (d_alloc rfl (by simp [freeHp, freeTm, Blk.says, PV.says, PV.saysL, PV.lift, PV.liftL, argTm, hc1]) (by decide)) ?_)) | (refine k_box ?_; (refine o_does (d_box rfl rfl rfl (by simp [freeHp, freeTm, Blk.says, PV.says, PV.saysL, PV.lift, PV.liftL, argTm, hc1]) (by simp [PV.saysL, PV.says, PV.lift, PV.liftL, hc1]) (by decide)) ?_)))) | (refine k_ops ?_; (first | refine o_go (by first | exact .inl rfl | exact .inr ⟨_, _, _, rfl, rfl, rfl⟩) ?_ | refine o_nil ?_)) | (refine k_run ?_; (first | refine r_seq ?_ | refine r_region ?_ | refine r_false rfl ?_ | refine r_skip ?_ | refine r_block ?_)))
  refine r_cell_row 7 0 1000 3 1 rfl rfl rfl (by simp [freeHp, freeTm, Blk.says, PV.says, PV.saysL, PV.lift, PV.liftL, argTm, hc1, zeroP_says, spc]) ?_
  refine r_less (tm' := [(3, .ptr (0, 3) 0), (5, .ptr (0, 5) 0), (7, .ptr (0, 7) 0), (15, .fn (.func 59) [] [.ptr (0, 901) 0, .ptr (0, 902) 0])]) (hp' := [(7, .box [.ref (0, 1000)]), (1000, orow []), (902, .box ((spc s).map .d)), (901, .box [.ptr (e0 + 1, X) 0]), (5, .box [.fn (.func g) [] (PV.liftL 1 (cap 0))]), (3, .box [.ptr (e0 + 1, X) 0])]) ?_ rfl rfl
  obtain ⟨hp0, hhp⟩ : ∃ hp0 : Hp, [(7, .box [.ref (0, 1000)]), (1000, orow []), (902, .box ((spc s).map .d)), (901, .box [.ptr (e0 + 1, X) 0]), (5, .box [.fn (.func g) [] (PV.liftL 1 (cap 0))]), (3, .box [.ptr (e0 + 1, X) 0])] = hp0 := ⟨_, rfl⟩
  have hG : GoodF X l s g cap e0 0 (e0 + 1) (push ((999, lpB .ready) :: hp0) H) [] := {
    he := rfl
    lp := rfl
    row := by subst hhp; rfl
    out := by subst hhp; rfl
    x := by subst hhp; rfl
    k := by subst hhp; rfl
    kb := hb
    box := hx
    small := by simp
    quiet := fun x t b hx hn hb => by
      obtain rfl : x = 0 := by omega
      refine quietHp_but 7 (m := (0, 1000)) ?_ hb (by omega)
      subst hhp
      simp [quietHp, Blk.says, PV.says, PV.saysL, hc1, lpB, lpSt, saysTm, spc] }
  have hsp := ovl1_s l s _ 999 (by decide) hlen (findW l s g cap kp hk e0 hlen) (e0 + 1) _ [] hG (by simpa using hlen) (by subst hhp; rfl) (by subst hhp; rfl)
  rw [hhp]
  refine r_rangeFunc 999 1000 lpSt rfl rfl rfl (by subst hhp; simp [freeHp, freeTm, Blk.says, PV.says, PV.saysL, hc1, spc]) rfl hsp (fun m h => h) ?_
  rintro r H2 ⟨_, rfl⟩
  refine ⟨.ready, none, lpSt, _, H, upd_push0 (by decide), by simp, ?_⟩
  rw [← hhp]
  have hoL : (ordS l).length = l.length := by simpa using (ordS_perm l).length_eq
  have hall : prt (ordS l) 0 l.length = ordS l := by rw [← hoL]; exact prt_all _
  obtain ⟨F, hF⟩ : ∃ F : List Nat, ((ordS l).filter fun i => ov l s i && kp (l.getD i (0, 0))) = F := ⟨_, rfl⟩
  have hFl : F.length ≤ 4096 := by
    have := List.length_filter_le (fun i => ov l s i && kp (l.getD i (0, 0))) (ordS l)
    rw [hF] at this; omega
  rw [hall, hF, List.nil_append]
  have hsf := sort_filter l.length (ordS l) (fun i => ov l s i && kp (l.getD i (0, 0))) (ordS_perm l)
  rw [hF] at hsf
  have hst := sort_s 1000 (F.map fun i : Nat => ((i : Nat) : Int)) (by rw [List.length_map]; omega)
  rw [hsf, List.map_map, List.map_map] at hst
  refine r_less (tm' := [(7, .ptr (0, 7) 0)]) (hp' := [(7, .box [.ref (0, 1000)]), (1000, orow F)]) ?_ rfl rfl
  repeat' (first | (refine k_op1 ?_; (first | refine o_sv rfl (by decide) ?_ | (refine k_load ?_; (refine o_val (v_load rfl rfl rfl rfl) rfl rfl (by decide) ?_)) | (refine k_call ?_; (refine o_eff1 hst rfl rfl (by decide) ?_)))) | (refine k_ops ?_; (first | refine o_go (by first | exact .inl rfl | exact .inr ⟨_, _, _, rfl, rfl, rfl⟩) ?_ | refine o_nil ?_)) | (refine k_run ?_; (first | refine r_seq ?_ | refine r_region ?_ | refine r_inBlock ?_)))
  refine r_freeze 1000 rfl ?_
  refine r_ret Try.func28 _ (res_one rfl rfl) ⟨?_, rfl⟩
  rfl
end Go.Proofs.Ytiapeheclfkdmaa
namespace Go.Proofs.Ytiapeheclfkdmaa
open Go.Ab Go.Stab
set_option maxHeartbeats 20000000
set_option maxRecDepth 100000
set_option linter.unusedVariables false
set_option linter.unusedSectionVars false
set_option linter.unusedSimpArgs false
attribute [local irreducible] Run Ops Op1 Does Val Tr PureF Eff1 NF Rel EffV EffM

variable {X : Nat} [hX : XOk X]
theorem find_bad (l : List Span) (s : Span) (p : PV) (g : FuncId) (cap : List PV) (e0 : Nat) (hc : ∀ x, PV.saysL (0, x) (PV.liftL 1 cap) = false) (hoks : okS s = false) (H : Hf) :
    Ab.Spec Try.prog 28 [.ptr (e0, X) 0, .d (Dsp s), .fn (.func g) [] cap] H (fun r H' => r = .v (.d (nats [])) ∧ H' = H) := by
  refine spec_of Try.func28 (by kernel_rfl) rfl (by simp) ?_
  dsimp only [Try.f28]
  have hv := rel_s s s
  rw [rel_self, hoks, if_pos rfl] at hv
  repeat' (first | (refine k_op1 ?_; (first | refine o_sv rfl (by decide) ?_ | (refine k_load ?_; (refine o_val (v_loada rfl rfl rfl) rfl rfl (by decide) ?_)) | (refine k_call ?_; (refine o_fn hv rfl (by decide) ?_)) | (refine k_box ?_; (refine o_does (d_box rfl rfl rfl (by simp [freeHp, freeTm, Blk.says, PV.says, PV.saysL, PV.lift, PV.liftL, argTm, hc]) (by simp [PV.saysL, PV.says, PV.lift, PV.liftL, hc]) (by decide)) ?_)))) | (refine k_ops ?_; (first | refine o_go (by first | exact .inl rfl | exact .inr ⟨_, _, _, rfl, rfl, rfl⟩) ?_ | refine o_nil ?_)) | (refine k_run ?_; (first | refine r_seq ?_ | refine r_region ?_ | refine r_true rfl ?_)))
  refine r_nil 6 rfl ?_
  exact r_ret Try.func28 _ (res_one rfl rfl) ⟨rfl, rfl⟩
theorem keep29 (s : Span) : KeepS 29 (fun _ => []) s (fun _ => true) where
  lift j k := rfl
  says j m x h := rfl
  spec j H t hH := by
    refine spec_of Try.func29 (by kernel_rfl) rfl (by simp) ?_
    dsimp only [Try.f29]
    repeat' (first | (refine k_op1 ?_; (first | refine o_sv rfl (by decide) ?_ | (refine k_box ?_; (refine o_does (d_box_d rfl rfl (by decide)) ?_)))) | (refine k_ops ?_; (first | refine o_go (by first | exact .inl rfl | exact .inr ⟨_, _, _, rfl, rfl, rfl⟩) ?_ | refine o_nil ?_)) | (refine k_run ?_; (first | refine r_seq ?_ | refine r_region ?_)))
    exact r_ret Try.func29 _ (res_one rfl rfl) ⟨rfl, rfl⟩
theorem keep34 (s : Span) : KeepS 34 (fun j => [.ptr (j, 3) 0]) s (fun t => decide (s.1 ≤ t.1) && decide (t.2 ≤ s.2)) where
  lift j k := rfl
  says j m x h := by simp [PV.saysL, PV.says]; intro _ h2; exact h h2.symm
  spec j H t hH := by
    refine spec_of Try.func34 (by kernel_rfl) rfl (by simp) ?_
    dsimp only [Try.f34]
    by_cases h1 : s.1 ≤ t.1
    · repeat' (first | (refine k_op1 ?_; (first | refine o_sv rfl (by decide) ?_ | (refine k_load ?_; (first | refine o_val (v_load (b := .box ((spc s).map .d)) rfl rfl rfl rfl) rfl (bkN hH) (by decide) ?_ | refine o_val (v_load rfl rfl rfl rfl) rfl rfl (by decide) ?_)) | (refine k_field ?_; (refine o_val (v_field rfl rfl) rfl rfl (by decide) ?_)) | (refine k_box ?_; (refine o_does (d_box_d rfl rfl (by decide)) ?_)))) | (refine k_ops ?_; (first | refine o_go (by first | exact .inl rfl | exact .inr ⟨_, _, _, rfl, rfl, rfl⟩) ?_ | refine o_nil ?_ | refine o_no rfl rfl (by decide) ?_ | refine o_casep rfl rfl (fun _ => ?_) (fun _ => ?_))) | (refine k_run ?_; (first | refine r_seq ?_ | refine r_region ?_)))
      all_goals try (exfalso; omega)
      refine r_ret Try.func34 _ (res_one rfl rfl) ⟨?_, rfl⟩
      simp [h1]
    · repeat' (first | (refine k_op1 ?_; (first | refine o_sv rfl (by decide) ?_ | (refine k_load ?_; (first | refine o_val (v_load (b := .box ((spc s).map .d)) rfl rfl rfl rfl) rfl (bkN hH) (by decide) ?_ | refine o_val (v_load rfl rfl rfl rfl) rfl rfl (by decide) ?_)) | (refine k_field ?_; (refine o_val (v_field rfl rfl) rfl rfl (by decide) ?_)) | (refine k_box ?_; (refine o_does (d_box_d rfl rfl (by decide)) ?_)))) | (refine k_ops ?_; (first | refine o_go (by first | exact .inl rfl | exact .inr ⟨_, _, _, rfl, rfl, rfl⟩) ?_ | refine o_nil ?_ | refine o_no rfl rfl (by decide) ?_ | refine o_casep rfl rfl (fun _ => ?_) (fun _ => ?_))) | (refine k_run ?_; (first | refine r_seq ?_ | refine r_region ?_)))
      all_goals try (exfalso; omega)
      refine r_ret Try.func34 _ (res_one rfl rfl) ⟨?_, rfl⟩
      simp [h1]
theorem keep30 (s : Span) : KeepS 30 (fun j => [.ptr (j, 3) 0]) s (fun t => decide (t.1 ≤ s.1) && decide (s.2 ≤ t.2)) where
  lift j k := rfl
  says j m x h := by simp [PV.saysL, PV.says]; intro _ h2; exact h h2.symm
  spec j H t hH := by
    refine spec_of Try.func30 (by kernel_rfl) rfl (by simp) ?_
    dsimp only [Try.f30]
    by_cases h1 : t.1 ≤ s.1
    · repeat' (first | (refine k_op1 ?_; (first | refine o_sv rfl (by decide) ?_ | (refine k_load ?_; (first | refine o_val (v_load (b := .box ((spc s).map .d)) rfl rfl rfl rfl) rfl (bkN hH) (by decide) ?_ | refine o_val (v_load rfl rfl rfl rfl) rfl rfl (by decide) ?_)) | (refine k_field ?_; (refine o_val (v_field rfl rfl) rfl rfl (by decide) ?_)) | (refine k_box ?_; (refine o_does (d_box_d rfl rfl (by decide)) ?_)))) | (refine k_ops ?_; (first | refine o_go (by first | exact .inl rfl | exact .inr ⟨_, _, _, rfl, rfl, rfl⟩) ?_ | refine o_nil ?_ | refine o_no rfl rfl (by decide) ?_ | refine o_casep rfl rfl (fun _ => ?_) (fun _ => ?_))) | (refine k_run ?_; (first | refine r_seq ?_ | refine r_region ?_)))
      all_goals try (exfalso; omega)
      refine r_ret Try.func30 _ (res_one rfl rfl) ⟨?_, rfl⟩
      simp [h1]
    · repeat' (first | (refine k_op1 ?_; (first | refine o_sv rfl (by decide) ?_ | (refine k_load ?_; (first | refine o_val (v_load (b := .box ((spc s).map .d)) rfl rfl rfl rfl) rfl (bkN hH) (by decide) ?_ | refine o_val (v_load rfl rfl rfl rfl) rfl rfl (by decide) ?_)) | (refine k_field ?_; (refine o_val (v_field rfl rfl) rfl rfl (by decide) ?_)) | (refine k_box ?_; (refine o_does (d_box_d rfl rfl (by decide)) ?_)))) | (refine k_ops ?_; (first | refine o_go (by first | exact .inl rfl | exact .inr ⟨_, _, _, rfl, rfl, rfl⟩) ?_ | refine o_nil ?_ | refine o_no rfl rfl (by decide) ?_ | refine o_casep rfl rfl (fun _ => ?_) (fun _ => ?_))) | (refine k_run ?_; (first | refine r_seq ?_ | refine r_region ?_)))
      all_goals try (exfalso; omega)
      refine r_ret Try.func30 _ (res_one rfl rfl) ⟨?_, rfl⟩
      simp [h1]
/-- the numbers of the spans that overlap one and are as kp says -/
def fnd (l : List Span) (s : Span) (kp : Span → Bool) : List Nat := if okS s = true then (List.range l.length).filter fun i => ov l s i && kp (l.getD i (0, 0)) else []
theorem find_all (l : List Span) (s : Span) (g : FuncId) (cap : Nat → List PV) (kp : Span → Bool) (hk : KeepS g cap s kp) (e0 : Nat) (hlen : l.length ≤ 4096) (H : Hf) (hx : H e0 X = some (xbox l)) (hb : H 0 3 = some (.box ((spc s).map .d))) :
    Ab.Spec Try.prog 28 [.ptr (e0, X) 0, .d (Dsp s), .fn (.func g) [] (cap 0)] H (fun r H' => r = .v (.d (nats (fnd l s kp))) ∧ H' = H) := by
  cases h : okS s with
  | true => rw [fnd, if_pos h]; exact find_s l s g cap kp hk e0 hlen h H hx hb
  | false =>
    rw [fnd, if_neg (by simp [h])]
    refine find_bad l s (.d (Dsp s)) g (cap 0) e0 (fun x => ?_) h H
    have := PV.lift_says x 0 (.fn (.func g) [] (cap 0))
    simpa [PV.lift, PV.liftL, PV.says, PV.saysL] using this
abbrev Xb (X e : Nat) (l : List Span) : List (Nm × Blk) := [((e, X), xbox l)]
theorem overlap_s (e : Nat) (l : List Span) (s : Span) (hlen : l.length ≤ 4096) : Eff1 Try.prog 16 [.ptr (e, X) 0, .d (Dsp s)] (Xb X e l) [] (.d (nats (fnd l s fun _ => true))) := by
  refine eff_of fun H hH => ?_
  have hH0 := hH ((e, X), xbox l) (by simp)
  have hc := fun (hp : Hp) (h3 : Ab.look hp 3 = some (.box ((spc s).map .d))) => find_all l s 29 _ _ (keep29 s) (e + 1) hlen (push hp H) hH0 h3
  refine spec_of Try.func16 (by kernel_rfl) rfl (by simp) ?_
  dsimp only [Try.f16]
  repeat' (first | (refine k_op1 ?_; (first | refine o_specc [] [] _ (hc _ rfl) rfl rfl (by decide) ?_ | refine o_sv rfl (by decide) ?_ | (refine k_load ?_; (refine o_val (v_loada rfl rfl rfl) rfl rfl (by decide) ?_)) | (refine k_box ?_; (refine o_does (d_box_d rfl rfl (by decide)) ?_)))) | (refine k_ops ?_; (first | refine o_go (by first | exact .inl rfl | exact .inr ⟨_, _, _, rfl, rfl, rfl⟩) ?_ | refine o_nil ?_)) | (refine k_run ?_; (first | refine r_seq ?_ | refine r_region ?_)))
  exact r_ret Try.func16 _ (res_one rfl rfl) ⟨rfl, rfl⟩
theorem inside_s (e : Nat) (l : List Span) (s : Span) (hlen : l.length ≤ 4096) : Eff1 Try.prog 19 [.ptr (e, X) 0, .d (Dsp s)] (Xb X e l) [] (.d (nats (fnd l s fun t => decide (s.1 ≤ t.1) && decide (t.2 ≤ s.2)))) := by
  refine eff_of fun H hH => ?_
  have hH0 := hH ((e, X), xbox l) (by simp)
  have hc := fun (hp : Hp) (h3 : Ab.look hp 3 = some (.box ((spc s).map .d))) => find_all l s 34 _ _ (keep34 s) (e + 1) hlen (push hp H) hH0 h3
  refine spec_of Try.func19 (by kernel_rfl) rfl (by simp) ?_
  dsimp only [Try.f19]
  repeat' (first | (refine k_op1 ?_; (first | refine o_specc [] [] _ (hc _ rfl) rfl rfl (by decide) ?_ | refine o_sv rfl (by decide) ?_ | (refine k_load ?_; (refine o_val (v_loada rfl rfl rfl) rfl rfl (by decide) ?_)) | (refine k_box ?_; (refine o_does (d_box_d rfl rfl (by decide)) ?_)) | refine o_mkfn rfl rfl (by decide) ?_)) | (refine k_ops ?_; (first | refine o_go (by first | exact .inl rfl | exact .inr ⟨_, _, _, rfl, rfl, rfl⟩) ?_ | refine o_nil ?_)) | (refine k_run ?_; (first | refine r_seq ?_ | refine r_region ?_)))
  exact r_ret Try.func19 _ (res_one rfl rfl) ⟨rfl, rfl⟩
theorem around_s (e : Nat) (l : List Span) (s : Span) (hlen : l.length ≤ 4096) : Eff1 Try.prog 17 [.ptr (e, X) 0, .d (Dsp s)] (Xb X e l) [] (.d (nats (fnd l s fun t => decide (t.1 ≤ s.1) && decide (s.2 ≤ t.2)))) := by
  refine eff_of fun H hH => ?_
  have hH0 := hH ((e, X), xbox l) (by simp)
  have hc := fun (hp : Hp) (h3 : Ab.look hp 3 = some (.box ((spc s).map .d))) => find_all l s 30 _ _ (keep30 s) (e + 1) hlen (push hp H) hH0 h3
  refine spec_of Try.func17 (by kernel_rfl) rfl (by simp) ?_
  dsimp only [Try.f17]
  repeat' (first | (refine k_op1 ?_; (first | refine o_specc [] [] _ (hc _ rfl) rfl rfl (by decide) ?_ | refine o_sv rfl (by decide) ?_ | (refine k_load ?_; (refine o_val (v_loada rfl rfl rfl) rfl rfl (by decide) ?_)) | (refine k_box ?_; (refine o_does (d_box_d rfl rfl (by decide)) ?_)) | refine o_mkfn rfl rfl (by decide) ?_)) | (refine k_ops ?_; (first | refine o_go (by first | exact .inl rfl | exact .inr ⟨_, _, _, rfl, rfl, rfl⟩) ?_ | refine o_nil ?_)) | (refine k_run ?_; (first | refine r_seq ?_ | refine r_region ?_)))
  exact r_ret Try.func17 _ (res_one rfl rfl) ⟨rfl, rfl⟩
/-- the spans that contain a token -/
def stb (l : List Span) (p : Int) : List Nat := if p < 0 ∨ 2147483647 ≤ p then [] else fnd l (p, p + 1) fun _ => true
theorem stab_s (e : Nat) (l : List Span) (p : Int) (hlen : l.length ≤ 4096) : Eff1 Try.prog 14 [.ptr (e, X) 0, .d (Dint p)] (Xb X e l) [] (.d (nats (stb l p))) := by
  refine eff_of fun H hH => ?_
  have hH0 := hH ((e, X), xbox l) (by simp)
  refine spec_of Try.func14 (by kernel_rfl) rfl (by simp) ?_
  dsimp only [Try.f14]
  by_cases h1 : p < 0
  · rw [stb, if_pos (.inl h1)]
    repeat' (first | (refine k_op1 ?_; (first | refine o_sv rfl (by decide) ?_ | (refine k_bin ?_; (refine o_val (v_add (wi64 (by omega) (by omega))) rfl rfl (by decide) ?_)) | (refine k_build ?_; (refine o_build rfl rfl rfl rfl rfl rfl rfl (by decide) ?_)))) | (refine k_ops ?_; (first | refine o_go (by first | exact .inl rfl | exact .inr ⟨_, _, _, rfl, rfl, rfl⟩) ?_ | refine o_nil ?_ | refine o_no rfl rfl (by decide) ?_ | refine o_casep rfl rfl (fun _ => ?_) (fun _ => ?_))) | (refine k_run ?_; (first | refine r_seq ?_ | refine r_region ?_ | refine r_true rfl ?_ | refine r_skip ?_ | refine r_if rfl (fun _ => ?_) (fun _ => ?_))))
    all_goals try (exfalso; omega)
    refine r_nil 4 rfl ?_
    exact r_ret Try.func14 _ (res_one rfl rfl) ⟨rfl, rfl⟩
  by_cases h2 : 2147483647 ≤ p
  · rw [stb, if_pos (.inr h2)]
    repeat' (first | (refine k_op1 ?_; (first | refine o_sv rfl (by decide) ?_ | (refine k_bin ?_; (refine o_val (v_add (wi64 (by omega) (by omega))) rfl rfl (by decide) ?_)) | (refine k_build ?_; (refine o_build rfl rfl rfl rfl rfl rfl rfl (by decide) ?_)))) | (refine k_ops ?_; (first | refine o_go (by first | exact .inl rfl | exact .inr ⟨_, _, _, rfl, rfl, rfl⟩) ?_ | refine o_nil ?_ | refine o_no rfl rfl (by decide) ?_ | refine o_casep rfl rfl (fun _ => ?_) (fun _ => ?_))) | (refine k_run ?_; (first | refine r_seq ?_ | refine r_region ?_ | refine r_true rfl ?_ | refine r_skip ?_ | refine r_if rfl (fun _ => ?_) (fun _ => ?_))))
    all_goals try (exfalso; omega)
    refine r_nil 4 rfl ?_
    exact r_ret Try.func14 _ (res_one rfl rfl) ⟨rfl, rfl⟩
  rw [stb, if_neg (by omega)]
  have hc : ∀ hp : Hp, Ab.Spec Try.prog 16 [.ptr (e + 1, X) 0, .d (Dsp (p, p + 1))] (push hp H) (fun r H' => r = .v (.d (nats (fnd l (p, p + 1) fun _ => true))) ∧ H' = push hp H) := fun hp => eff_at (overlap_s (e + 1) l (p, p + 1) hlen) (push hp H) (by intro q hq; simp at hq; subst hq; exact hH0)
  repeat' (first | (refine k_op1 ?_; (first | refine o_specc [] [] _ (hc _) rfl rfl (by decide) ?_ | refine o_sv rfl (by decide) ?_ | (refine k_bin ?_; (refine o_val (v_add (wi64 (by omega) (by omega))) rfl rfl (by decide) ?_)) | (refine k_build ?_; (refine o_build rfl rfl rfl rfl rfl rfl rfl (by decide) ?_)))) | (refine k_ops ?_; (first | refine o_go (by first | exact .inl rfl | exact .inr ⟨_, _, _, rfl, rfl, rfl⟩) ?_ | refine o_nil ?_ | refine o_no rfl rfl (by decide) ?_ | refine o_casep rfl rfl (fun _ => ?_) (fun _ => ?_))) | (refine k_run ?_; (first | refine r_seq ?_ | refine r_region ?_ | refine r_true rfl ?_ | refine r_skip ?_ | refine r_if rfl (fun _ => ?_) (fun _ => ?_))))
  all_goals try (exfalso; omega)
  exact r_ret Try.func14 _ (res_one rfl rfl) ⟨rfl, rfl⟩
end Go.Proofs.Ytiapeheclfkdmaa
