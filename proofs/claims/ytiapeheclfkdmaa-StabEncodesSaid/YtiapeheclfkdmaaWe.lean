/- What is found in part of the index. -/
import Derived.Shelf.Sort.Plain
import Derived.Shelf.Slices.In.SortNone
import Derived.Test.YtiapeheclfkdmaaProg
import Derived.Test.YtiapeheclfkdmaaWd
import Derived.Test.YtiapeheclfkdmaaFg
set_option linter.all false
set_option linter.unusedVariables false
set_option linter.unusedSimpArgs false
namespace Go.Proofs.Ytiapeheclfkdmaa
open Go.Proofs Go.Shelf
def shl_ren : Go.Shelf.Ren := ⟨fun | 189 => 52 | 125 => 62 | 257 => 61 | 128 => 76 | 129 => 77 | 294 => 67 | 295 => 68 | 296 => 69 | 297 => 70 | 298 => 71 | 299 => 72 | 216 => 73 | 300 => 74 | 301 => 75 | 328 => 79 | 329 => 80 | 330 => 81 | 331 => 82 | 332 => 83 | 215 => 58 | 343 => 85 | n => n, fun | 28 => 30 | 3 => 3 | 46 => 78 | 0 => 0 | 51 => 81 | 53 => 59 | 4 => 4 | 183 => 95 | 182 => 94 | 131 => 100 | 5 => 5 | 9 => 9 | 218 => 104 | 222 => 108 | 228 => 110 | 229 => 111 | n => n, fun | n => n⟩
theorem shl : Go.Proofs.Lays.n189 Try.prog shl_ren := {
  mixed := by kernel_rfl
  f125 := Try.func62.trans (congrArg some (by kernel_rfl))
  f128 := Try.func76.trans (congrArg some (by kernel_rfl))
  f129 := Try.func77.trans (congrArg some (by kernel_rfl))
  f189 := Try.func52.trans (congrArg some (by kernel_rfl))
  f215 := Try.func58.trans (congrArg some (by kernel_rfl))
  f216 := Try.func73.trans (congrArg some (by kernel_rfl))
  f257 := Try.func61.trans (congrArg some (by kernel_rfl))
  f294 := Try.func67.trans (congrArg some (by kernel_rfl))
  f295 := Try.func68.trans (congrArg some (by kernel_rfl))
  f296 := Try.func69.trans (congrArg some (by kernel_rfl))
  f297 := Try.func70.trans (congrArg some (by kernel_rfl))
  f298 := Try.func71.trans (congrArg some (by kernel_rfl))
  f299 := Try.func72.trans (congrArg some (by kernel_rfl))
  f300 := Try.func74.trans (congrArg some (by kernel_rfl))
  f301 := Try.func75.trans (congrArg some (by kernel_rfl))
  f328 := Try.func79.trans (congrArg some (by kernel_rfl))
  f329 := Try.func80.trans (congrArg some (by kernel_rfl))
  f330 := Try.func81.trans (congrArg some (by kernel_rfl))
  f331 := Try.func82.trans (congrArg some (by kernel_rfl))
  f332 := Try.func83.trans (congrArg some (by kernel_rfl))
  f343 := Try.func85.trans (congrArg some (by kernel_rfl))
  t0 := Try.underlying0
  a0 := Try.isAgg0
  z0 := Try.sizeOf0
  v0 := Try.zeroValue0
  t3 := Try.underlying3
  a3 := Try.isAgg3
  z3 := Try.sizeOf3
  v3 := Try.zeroValue3
  t4 := Try.underlying4
  a4 := Try.isAgg4
  z4 := Try.sizeOf4
  v4 := Try.zeroValue4
  t5 := Try.underlying5
  a5 := Try.isAgg5
  z5 := Try.sizeOf5
  v5 := Try.zeroValue5
  t9 := Try.underlying9
  a9 := Try.isAgg9
  z9 := Try.sizeOf9
  v9 := Try.zeroValue9
  t28 := Try.underlying30
  a28 := Try.isAgg30
  z28 := Try.sizeOf30
  v28 := Try.zeroValue30
  t46 := Try.underlying78
  a46 := Try.isAgg78
  z46 := Try.sizeOf78
  v46 := Try.zeroValue78
  t51 := Try.underlying81
  a51 := Try.isAgg81
  z51 := Try.sizeOf81
  v51 := Try.zeroValue81
  t53 := Try.underlying59
  a53 := Try.isAgg59
  z53 := Try.sizeOf59
  v53 := Try.zeroValue59
  t131 := Try.underlying100
  a131 := Try.isAgg100
  z131 := Try.sizeOf100
  v131 := Try.zeroValue100
  t182 := Try.underlying94
  a182 := Try.isAgg94
  z182 := Try.sizeOf94
  v182 := Try.zeroValue94
  t183 := Try.underlying95
  a183 := Try.isAgg95
  z183 := Try.sizeOf95
  v183 := Try.zeroValue95
  t218 := Try.underlying104
  a218 := Try.isAgg104
  z218 := Try.sizeOf104
  v218 := Try.zeroValue104
  t222 := Try.underlying108
  a222 := Try.isAgg108
  z222 := Try.sizeOf108
  v222 := Try.zeroValue108
  t228 := Try.underlying110
  a228 := Try.isAgg110
  z228 := Try.sizeOf110
  v228 := Try.zeroValue110
  t229 := Try.underlying111
  a229 := Try.isAgg111
  z229 := Try.sizeOf111
  v229 := Try.zeroValue111 }
open Go.Sort Go.RowKit in
theorem sort_int (blk off cap : Nat) (zs : List Int) (w : World) (hH : Holds (Value.int .i64) w blk off zs.toArray) (hblk : blk < w.heap.size) (hsz : zs.length < 4611686018427387904) :
    Calls Try.prog 52 #[.slice (some ⟨blk, off, none⟩) zs.length cap] w fun e w' =>
      e = .returned (.tuple #[]) ∧ ∃ n os, w' = grow (putRow (Value.int .i64) (Sort.ahead w n) blk off (zs.mergeSort fun x y => decide (x ≤ y)).toArray) os := Any.slices_Sort_int shl blk off cap zs w hH hblk hsz
open Go.RowKit Go.Sort in
theorem sort_int_none (p : Option Addr) (cap : Nat) (w : World) :
    Calls Try.prog 52 #[.slice p 0 cap] w fun e w' => e = .returned (.tuple #[]) ∧ w' = w := Any.slices_Sort_int_none shl p cap w
end Go.Proofs.Ytiapeheclfkdmaa
namespace Go.Proofs.Ytiapeheclfkdmaa
open Go.Ab Go.Stab
set_option maxHeartbeats 20000000
set_option maxRecDepth 100000
set_option linter.unusedVariables false
set_option linter.unusedSectionVars false
set_option linter.unusedSimpArgs false
attribute [local irreducible] Run Ops Op1 Does Val Tr PureF Eff1 NF Rel EffV EffM

/-- a name that may stand for an index -/
class XOk (X : Nat) : Prop where
  ne : X ≠ 1000
  n1 : X ≠ 901
  n2 : X ≠ 902
instance : XOk 600 := ⟨by decide, by decide, by decide⟩
instance : XOk 601 := ⟨by decide, by decide, by decide⟩
variable {X : Nat} [hX : XOk X]
abbrev xbox (l : List Span) : Blk := ibox l (ordS l) (endsS l)
abbrev orow (o : List Nat) : Blk := .row 3 1 (o.map fun i : Nat => [Dint (i : Nat)])
theorem len_s (l : List Span) (hlen : l.length ≤ 4096) : Eff1 Try.prog 11 [.ptr (0, X) 0] [((0, X), xbox l)] [] (I .i64 l.length) := by
  refine eff_of fun H hH => ?_
  have hH0 := hH ((0, X), xbox l) (by simp)
  refine spec_of Try.func11 (by kernel_rfl) rfl (by simp) ?_
  dsimp only [Try.f11]
  repeat' (first | (refine k_op1 ?_; (first | refine o_sv rfl (by decide) ?_ | (refine k_load ?_; (refine o_val (v_load (b := xbox l) rfl rfl rfl rfl) rfl (bkN hH0) (by decide) ?_)) | (refine k_field ?_; (refine o_val (v_field rfl rfl) rfl rfl (by decide) ?_)) | (refine k_blt ?_; (refine o_val (v_lenm rfl) rfl rfl (by decide) ?_)))) | (refine k_ops ?_; (first | refine o_go (by first | exact .inl rfl | exact .inr ⟨_, _, _, rfl, rfl, rfl⟩) ?_ | refine o_nil ?_)) | (refine k_run ?_; (first | refine r_seq ?_ | refine r_region ?_)))
  refine r_ret Try.func11 _ (res_one rfl rfl) ⟨?_, rfl⟩
  rfl
/-- what holds where a span's overlapping ones are looked for: the loop's block, the numbers found so far -/
structure GoodW (X : Nat) (l : List Span) (s : Span) (keep : Nat → Bool) (ls : Nat) (Good : Nat → Nat → Hf → List Nat → Prop) : Prop where
  down : ∀ {d e H o} (hp : Hp), Good d e H o → quietHp (d + 1, 1000) hp = true → Good (d + 1) (e + 1) (push hp H) o
  next : ∀ {d e H o} (o' : List Nat), Good d e H o → o'.length ≤ 4096 → Good d e (upd H (d, 1000) (orow o')) o'
  box : ∀ {d e H o}, Good d e H o → H e X = some (xbox l)
  row : ∀ {d e H o}, Good d e H o → H d 1000 = some (orow o)
  yld : ∀ {d e H o} (i : Nat), Good d e H o → i < l.length → SpecY Try.prog (d, ls) [I .i64 (i : Nat)] H (fun r H' => r = .v (B true) ∧ H' = upd H (d, 1000) (orow (o ++ if keep i then [i] else []))) (fun x => x = (d, 1000))
theorem walk_s (l : List Span) (s : Span) (keep : Nat → Bool) (ls : Nat) (hls : ls ≠ 1000) (hlen : l.length ≤ 4096) {Good : Nat → Nat → Hf → List Nat → Prop} (hg : GoodW X l s keep ls Good) : ∀ (f a b d e : Nat) (H : Hf) (o : List Nat), Good d e H o → o.length + (b - a) ≤ 4096 → a ≤ b → b - a < f → b ≤ l.length → Stab.Ends l (ordS l) (endsS l) a b →
    SpecV Try.prog 60 [.ptr (e, X) 0, I .i64 (a : Nat), I .i64 (b : Nat), .d (Dsp s), .yl (d, ls)] H ⟨fun r H' => r = .v (B true) ∧ H' = upd H (d, 1000) (orow (o ++ (prt (ordS l) a b).filter fun i => ov l s i && keep i)), fun x => x = (d, 1000), none⟩
  | 0, a, b, d, e, H, o, hG, hol, h, h1, h2, hE => by omega
  | f + 1, a, b, d, e, H, o, hG, hol, h, h1, h2, hE => by
    refine specV_of Try.func60 (by kernel_rfl) rfl (by simp) ?_
    dsimp only [Try.f60]
    have hx := hg.box hG
    have hr := hg.row hG
    cases hE with
    | none =>
      repeat' (first | (refine k_op1 ?_; (first | refine o_sv rfl (by decide) ?_ | (refine k_bin ?_; (refine o_val (v_add (wi64 (by omega) (by omega))) rfl rfl (by decide) ?_)) | (refine k_box ?_; (refine o_does (d_box_d rfl rfl (by decide)) ?_)))) | (refine k_ops ?_; (first | refine o_go (by first | exact .inl rfl | exact .inr ⟨_, _, _, rfl, rfl, rfl⟩) ?_ | refine o_nil ?_)) | (refine k_run ?_; (first | refine r_seq ?_ | refine r_region ?_ | refine r_skip ?_ | refine r_if rfl (fun _ => ?_) (fun _ => ?_))))
      all_goals try (exfalso; omega)
      refine r_ret Try.func60 _ (res_one rfl rfl) ⟨rfl, ?_⟩
      rw [prt_nil _ (Nat.le_refl _), List.filter_nil, List.append_nil]; exact (upd_id (m := (d, 1000)) hr).symm
    | some _ _ hab he hE1 hE2 =>
      obtain ⟨m, hm⟩ : ∃ m, (a + b) / 2 = m := ⟨_, rfl⟩
      rw [hm] at he hE1 hE2
      have hmr : a ≤ m ∧ m < b := by omega
      have hmi : ((a : Int) + b) / 2 = (m : Nat) := by omega
      have hoL : (ordS l).length = l.length := by simpa using (ordS_perm l).length_eq
      obtain ⟨i, hi⟩ : ∃ i, (ordS l)[m]? = some i := ⟨_, List.getElem?_eq_getElem (by omega)⟩
      have hil : i < l.length := by simpa using (ordS_perm l).mem_iff.1 (List.mem_of_getElem? hi)
      obtain ⟨t, ht⟩ : ∃ t, l[i]? = some t := ⟨_, List.getElem?_eq_getElem hil⟩
      have hgt : (l.getD i (0, 0)) = t := getD_some ht
      have hsp := prt_split (ordS l) hmr.1 hmr.2 hi
      have hEl : m < (endsS l).length := (List.getElem?_eq_some_iff.1 he).1
      obtain ⟨T, hT⟩ : ∃ T, topE l (prt (ordS l) a b) = T := ⟨_, rfl⟩
      rw [hT] at he
      by_cases hTs : T ≤ s.1
      · have hnone := ov_top (by omega : topE l (prt (ordS l) a b) ≤ s.1) keep
        repeat' (first | (refine k_op1 ?_; (first | refine o_sv rfl (by decide) ?_ | (refine k_load ?_; (refine o_val (v_loada rfl rfl rfl) rfl rfl (by decide) ?_)) | (refine k_bin ?_; (first | refine o_val (v_quoe (by omega) (by omega) (wi64 (by omega) (by omega)) hmi) rfl rfl (by decide) ?_ | refine o_val (v_add (wi64 (by omega) (by omega))) rfl rfl (by decide) ?_)) | (refine k_box ?_; (refine o_does (d_box_d rfl rfl (by decide)) ?_)))) | (refine k_ops ?_; (first | refine o_go (by first | exact .inl rfl | exact .inr ⟨_, _, _, rfl, rfl, rfl⟩) ?_ | refine o_nil ?_)) | (refine k_run ?_; (first | refine r_seq ?_ | refine r_region ?_ | refine r_skip ?_ | refine r_tr ?_ | refine r_if rfl (fun _ => ?_) (fun _ => ?_))) | (refine k_tr ?_; (first | (refine kt_end ?_; refine t_end mix (by kernel_rfl) ?_) | refine t_sv rfl (by first | exact rfl | exact ⟨_, rfl, rfl, rfl⟩) (by decide) ?_ | (refine kt_load ?_; (first | refine t_val (v_load (b := xbox l) rfl rfl rfl rfl) (by first | exact rfl | exact ⟨_, rfl, rfl, rfl⟩) rfl (bkN hx) (by decide) ?_ | refine t_val (v_load rfl rfl rfl rfl) (by first | exact rfl | exact ⟨_, rfl, rfl, rfl⟩) rfl rfl (by decide) ?_ | refine t_val (v_loade rfl rfl rfl) (by first | exact rfl | exact ⟨_, rfl, rfl, rfl⟩) rfl rfl (by decide) ?_)) | (refine kt_field ?_; (refine t_val (v_field rfl rfl) (by first | exact rfl | exact ⟨_, rfl, rfl, rfl⟩) rfl rfl (by decide) ?_)) | (refine kt_index ?_; (refine t_val (v_index (ys := (endsS l).map fun x => [Dint x]) rfl (by omega) (idx he) rfl) (by first | exact rfl | exact ⟨_, rfl, rfl, rfl⟩) rfl rfl (by decide) ?_)))))
        all_goals try (exfalso; omega)
        refine r_ret Try.func60 _ (res_one rfl rfl) ⟨rfl, ?_⟩
        rw [hnone, List.append_nil]; exact (upd_id (m := (d, 1000)) hr).symm
      · have c1 : ∀ hp : Hp, quietHp (d + 1, 1000) hp = true → SpecV Try.prog 60 [.ptr (e + 1, X) 0, I .i64 (a : Nat), I .i64 (m : Nat), .d (Dsp s), .yl (d + 1, ls)] (push hp H) ⟨fun r H' => r = .v (B true) ∧ H' = push hp (upd H (d, 1000) (orow (o ++ (prt (ordS l) a m).filter fun i => ov l s i && keep i))), fun x => x = (d + 1, 1000), none⟩ := fun hp hq => by
          have := walk_s l s keep ls hls hlen hg f a m (d + 1) (e + 1) (push hp H) o (hg.down hp hG hq) (by omega) (by omega) (by omega) (by omega) hE1
          rw [push_updN hp H (d, 1000)] at this
          exact this
        obtain ⟨o1, ho1⟩ : ∃ o1, o ++ ((prt (ordS l) a m).filter fun i => ov l s i && keep i) = o1 := ⟨_, rfl⟩
        rw [ho1] at c1
        have hl1 : o1.length ≤ o.length + (m - a) := by
          have q1 := List.length_filter_le (fun i => ov l s i && keep i) (prt (ordS l) a m)
          rw [prt_len _ (by omega)] at q1
          rw [← ho1, List.length_append]; omega
        have hG1 := hg.next o1 hG (by omega)
        have hx1 := hg.box hG1
        have hr1 := hg.row hG1
        have hvol : ∀ R : PostS, (⟨R, fun x : Nm => x = (d, 1000), none⟩ : Post).vol (d, 1000) := fun R => rfl
        by_cases hlate : s.2 ≤ t.1
        · have hnone : ((i :: prt (ordS l) (m + 1) b).filter fun i => ov l s i && keep i) = [] := by
            refine ov_late ?_ (by rw [hgt]; exact hlate) keep
            have hq := prt_split (ordS l) (Nat.le_refl m) hmr.2 hi
            rw [prt_nil _ (Nat.le_refl _), List.nil_append] at hq
            rw [← hq]
            exact (ordS_asc l).sublist ((List.drop_sublist _ _).trans (List.take_sublist _ _))
          repeat' (first | (refine k_op1 ?_; (first | refine o_specf (m := (d, 1000)) (c1 _ rfl) rfl (by simp [saysTm, PV.says, PV.saysL, PV.lift, PV.liftL, argTm, hls, hX.ne]) rfl (by decide) ?_ | refine o_sv rfl (by decide) ?_ | (refine k_load ?_; (first | refine o_val (v_load (b := xbox l) rfl rfl rfl rfl) rfl (bkN hx1) (by decide) ?_ | refine o_val (v_loada rfl rfl rfl) rfl rfl (by decide) ?_ | refine o_val (v_loade rfl rfl rfl) rfl rfl (by decide) ?_)) | (refine k_field ?_; (refine o_val (v_field rfl rfl) rfl rfl (by decide) ?_)) | (refine k_index ?_; (refine o_val (v_index (ys := (ordS l).map fun i : Nat => [Dint (i : Nat)]) rfl (by omega) (idx hi) rfl) rfl rfl (by decide) ?_)) | (refine k_bin ?_; (first | refine o_val (v_quoe (by omega) (by omega) (wi64 (by omega) (by omega)) hmi) rfl rfl (by decide) ?_ | refine o_val (v_add (wi64 (by omega) (by omega))) rfl rfl (by decide) ?_)) | (refine k_box ?_; (refine o_does (d_box_d rfl rfl (by decide)) ?_)))) | (refine k_ops ?_; (first | refine o_go (by first | exact .inl rfl | exact .inr ⟨_, _, _, rfl, rfl, rfl⟩) ?_ | refine o_nil ?_)) | (refine k_run ?_; (first | refine r_seq ?_ | refine r_region ?_ | refine r_false rfl ?_ | refine r_skip ?_ | refine r_tr ?_ | refine r_if rfl (fun _ => ?_) (fun _ => ?_))) | (refine k_tr ?_; (first | (refine kt_end ?_; refine t_end mix (by kernel_rfl) ?_) | refine t_pass rfl rfl (by decide) ?_ | refine t_sv rfl (by first | exact rfl | exact ⟨_, rfl, rfl, rfl⟩) (by decide) ?_ | (refine kt_load ?_; (first | refine t_val (v_load (b := xbox l) rfl rfl rfl rfl) (by first | exact rfl | exact ⟨_, rfl, rfl, rfl⟩) rfl (bkN hx1) (by decide) ?_ | refine t_val (v_load (b := xbox l) rfl rfl rfl rfl) (by first | exact rfl | exact ⟨_, rfl, rfl, rfl⟩) rfl (bkN hx) (by decide) ?_ | refine t_val (v_load rfl rfl rfl rfl) (by first | exact rfl | exact ⟨_, rfl, rfl, rfl⟩) rfl rfl (by decide) ?_ | refine t_val (v_loade rfl rfl rfl) (by first | exact rfl | exact ⟨_, rfl, rfl, rfl⟩) rfl rfl (by decide) ?_)) | (refine kt_field ?_; (first | refine t_val (v_field rfl rfl) (by first | exact rfl | exact ⟨_, rfl, rfl, rfl⟩) rfl rfl (by decide) ?_ | refine t_val (v_fielde rfl rfl) (by first | exact rfl | exact ⟨_, rfl, rfl, rfl⟩) rfl rfl (by decide) ?_)) | (refine kt_index ?_; (first | refine t_val (v_index (ys := (endsS l).map fun x => [Dint x]) rfl (by omega) (idx he) rfl) (by first | exact rfl | exact ⟨_, rfl, rfl, rfl⟩) rfl rfl (by decide) ?_ | refine t_val (v_index (ys := l.map spc) rfl (by omega) (idx ht) rfl) (by first | exact rfl | exact ⟨_, rfl, rfl, rfl⟩) rfl rfl (by decide) ?_)) | (refine t_either rfl rfl (fun hg => ?_) (fun hg => ?_) <;> simp only [hg] <;> (try simp only [decide_eq_true_eq, decide_eq_false_iff_not, Bool.not_eq_true', Bool.not_eq_false'] at hg)))))
          all_goals try (exfalso; omega)
          refine r_ret Try.func60 _ (res_one rfl rfl) ⟨rfl, ?_⟩
          rw [hsp, List.filter_append, hnone, List.append_nil, ho1]
        · by_cases hov : s.1 < t.2
          · have c2 : ∀ hp : Hp, quietHp (d + 1, 1000) hp = true → SpecY Try.prog (d + 1, ls) [I .i64 (i : Nat)] (push hp (upd H (d, 1000) (orow o1))) (fun r H' => r = .v (B true) ∧ H' = push hp (upd H (d, 1000) (orow (o1 ++ if keep i then [i] else [])))) (fun x => x = (d + 1, 1000)) := fun hp hq => by
              have := hg.yld i (hg.down hp hG1 hq) hil
              rw [push_updN hp (upd H (d, 1000) (orow o1)) (d, 1000), upd_upd] at this
              exact this
            have hG2 : Good d e (upd H (d, 1000) (orow (o1 ++ if keep i then [i] else []))) (o1 ++ if keep i then [i] else []) := hg.next _ hG (by rw [List.length_append]; split <;> simp <;> omega)
            obtain ⟨o2, ho2⟩ : ∃ o2, (o1 ++ if keep i then [i] else []) = o2 := ⟨_, rfl⟩
            have hl2 : o2.length ≤ o1.length + 1 := by rw [← ho2, List.length_append]; split <;> simp
            rw [ho2] at c2 hG2
            have hx2 := hg.box hG2
            have c3 : ∀ hp : Hp, quietHp (d + 1, 1000) hp = true → SpecV Try.prog 60 [.ptr (e + 1, X) 0, I .i64 ((m + 1 : Nat) : Int), I .i64 (b : Nat), .d (Dsp s), .yl (d + 1, ls)] (push hp (upd H (d, 1000) (orow o2))) ⟨fun r H' => r = .v (B true) ∧ H' = push hp (upd H (d, 1000) (orow (o2 ++ (prt (ordS l) (m + 1) b).filter fun i => ov l s i && keep i))), fun x => x = (d + 1, 1000), none⟩ := fun hp hq => by
              have := walk_s l s keep ls hls hlen hg f (m + 1) b (d + 1) (e + 1) _ o2 (hg.down hp hG2 hq) (by omega) (by omega) (by omega) (by omega) hE2
              rw [push_updN hp (upd H (d, 1000) (orow o2)) (d, 1000), upd_upd] at this
              exact this
            rw [show ((m + 1 : Nat) : Int) = (m : Int) + 1 by omega] at c3
            repeat' (first | (refine k_op1 ?_; (first | refine o_specf (m := (d, 1000)) (c1 _ rfl) rfl (by simp [saysTm, PV.says, PV.saysL, PV.lift, PV.liftL, argTm, hls, hX.ne]) rfl (by decide) ?_ | refine o_specf (m := (d, 1000)) (c3 _ rfl) rfl (by simp [saysTm, PV.says, PV.saysL, PV.lift, PV.liftL, argTm, hls, hX.ne]) rfl (by decide) ?_ | refine o_yieldf (mv := (d, 1000)) (c2 _ rfl) rfl rfl (by simp [saysTm, PV.says, PV.saysL, PV.lift, PV.liftL, argTm, hls, hX.ne]) rfl (by decide) ?_ | refine o_sv rfl (by decide) ?_ | (refine k_load ?_; (first | refine o_val (v_load (b := xbox l) rfl rfl rfl rfl) rfl (bkN hx1) (by decide) ?_ | refine o_val (v_loada rfl rfl rfl) rfl rfl (by decide) ?_ | refine o_val (v_loade rfl rfl rfl) rfl rfl (by decide) ?_)) | (refine k_field ?_; (refine o_val (v_field rfl rfl) rfl rfl (by decide) ?_)) | (refine k_index ?_; (refine o_val (v_index (ys := (ordS l).map fun i : Nat => [Dint (i : Nat)]) rfl (by omega) (idx hi) rfl) rfl rfl (by decide) ?_)) | (refine k_bin ?_; (first | refine o_val (v_quoe (by omega) (by omega) (wi64 (by omega) (by omega)) hmi) rfl rfl (by decide) ?_ | refine o_val (v_add (wi64 (by omega) (by omega))) rfl rfl (by decide) ?_)) | (refine k_box ?_; (refine o_does (d_box_d rfl rfl (by decide)) ?_)))) | (refine k_ops ?_; (first | refine o_go (by first | exact .inl rfl | exact .inr ⟨_, _, _, rfl, rfl, rfl⟩) ?_ | refine o_nil ?_)) | (refine k_run ?_; (first | refine r_seq ?_ | refine r_region ?_ | refine r_false rfl ?_ | refine r_skip ?_ | refine r_tr ?_ | refine r_if rfl (fun _ => ?_) (fun _ => ?_))) | (refine k_tr ?_; (first | (refine kt_end ?_; refine t_end mix (by kernel_rfl) ?_) | refine t_pass rfl rfl (by decide) ?_ | refine t_sv rfl (by first | exact rfl | exact ⟨_, rfl, rfl, rfl⟩) (by decide) ?_ | (refine kt_load ?_; (first | refine t_val (v_load (b := xbox l) rfl rfl rfl rfl) (by first | exact rfl | exact ⟨_, rfl, rfl, rfl⟩) rfl (bkN hx1) (by decide) ?_ | refine t_val (v_load (b := xbox l) rfl rfl rfl rfl) (by first | exact rfl | exact ⟨_, rfl, rfl, rfl⟩) rfl (bkN hx) (by decide) ?_ | refine t_val (v_load rfl rfl rfl rfl) (by first | exact rfl | exact ⟨_, rfl, rfl, rfl⟩) rfl rfl (by decide) ?_ | refine t_val (v_loade rfl rfl rfl) (by first | exact rfl | exact ⟨_, rfl, rfl, rfl⟩) rfl rfl (by decide) ?_)) | (refine kt_field ?_; (first | refine t_val (v_field rfl rfl) (by first | exact rfl | exact ⟨_, rfl, rfl, rfl⟩) rfl rfl (by decide) ?_ | refine t_val (v_fielde rfl rfl) (by first | exact rfl | exact ⟨_, rfl, rfl, rfl⟩) rfl rfl (by decide) ?_)) | (refine kt_index ?_; (first | refine t_val (v_index (ys := (endsS l).map fun x => [Dint x]) rfl (by omega) (idx he) rfl) (by first | exact rfl | exact ⟨_, rfl, rfl, rfl⟩) rfl rfl (by decide) ?_ | refine t_val (v_index (ys := l.map spc) rfl (by omega) (idx ht) rfl) (by first | exact rfl | exact ⟨_, rfl, rfl, rfl⟩) rfl rfl (by decide) ?_)) | (refine kt_call ?_; ((refine t_tail mix (by kernel_rfl) ?_) /- t_call -/)) | (refine t_either rfl rfl (fun hg => ?_) (fun hg => ?_) <;> simp only [hg] <;> (try simp only [decide_eq_true_eq, decide_eq_false_iff_not, Bool.not_eq_true', Bool.not_eq_false'] at hg)))))
            all_goals try (exfalso; omega)
            refine r_ret Try.func60 _ (res_one rfl rfl) ⟨rfl, ?_⟩
            show upd H (d, 1000) _ = upd H (d, 1000) _
            have hoi : ov l s i = true := by simp only [ov, hgt, Bool.and_eq_true, decide_eq_true_eq]; omega
            rw [hsp, List.filter_append, List.filter_cons, hoi, Bool.true_and, ← ho2, ← ho1]
            cases keep i <;> simp
          · have c3 : ∀ hp : Hp, quietHp (d + 1, 1000) hp = true → SpecV Try.prog 60 [.ptr (e + 1, X) 0, I .i64 ((m + 1 : Nat) : Int), I .i64 (b : Nat), .d (Dsp s), .yl (d + 1, ls)] (push hp (upd H (d, 1000) (orow o1))) ⟨fun r H' => r = .v (B true) ∧ H' = push hp (upd H (d, 1000) (orow (o1 ++ (prt (ordS l) (m + 1) b).filter fun i => ov l s i && keep i))), fun x => x = (d + 1, 1000), none⟩ := fun hp hq => by
              have := walk_s l s keep ls hls hlen hg f (m + 1) b (d + 1) (e + 1) _ o1 (hg.down hp hG1 hq) (by omega) (by omega) (by omega) (by omega) hE2
              rw [push_updN hp (upd H (d, 1000) (orow o1)) (d, 1000), upd_upd] at this
              exact this
            rw [show ((m + 1 : Nat) : Int) = (m : Int) + 1 by omega] at c3
            repeat' (first | (refine k_op1 ?_; (first | refine o_specf (m := (d, 1000)) (c1 _ rfl) rfl (by simp [saysTm, PV.says, PV.saysL, PV.lift, PV.liftL, argTm, hls, hX.ne]) rfl (by decide) ?_ | refine o_specf (m := (d, 1000)) (c3 _ rfl) rfl (by simp [saysTm, PV.says, PV.saysL, PV.lift, PV.liftL, argTm, hls, hX.ne]) rfl (by decide) ?_ | refine o_sv rfl (by decide) ?_ | (refine k_load ?_; (first | refine o_val (v_load (b := xbox l) rfl rfl rfl rfl) rfl (bkN hx1) (by decide) ?_ | refine o_val (v_loada rfl rfl rfl) rfl rfl (by decide) ?_ | refine o_val (v_loade rfl rfl rfl) rfl rfl (by decide) ?_)) | (refine k_field ?_; (refine o_val (v_field rfl rfl) rfl rfl (by decide) ?_)) | (refine k_index ?_; (refine o_val (v_index (ys := (ordS l).map fun i : Nat => [Dint (i : Nat)]) rfl (by omega) (idx hi) rfl) rfl rfl (by decide) ?_)) | (refine k_bin ?_; (first | refine o_val (v_quoe (by omega) (by omega) (wi64 (by omega) (by omega)) hmi) rfl rfl (by decide) ?_ | refine o_val (v_add (wi64 (by omega) (by omega))) rfl rfl (by decide) ?_)) | (refine k_box ?_; (refine o_does (d_box_d rfl rfl (by decide)) ?_)))) | (refine k_ops ?_; (first | refine o_go (by first | exact .inl rfl | exact .inr ⟨_, _, _, rfl, rfl, rfl⟩) ?_ | refine o_nil ?_)) | (refine k_run ?_; (first | refine r_seq ?_ | refine r_region ?_ | refine r_false rfl ?_ | refine r_skip ?_ | refine r_tr ?_ | refine r_if rfl (fun _ => ?_) (fun _ => ?_))) | (refine k_tr ?_; (first | (refine kt_end ?_; refine t_end mix (by kernel_rfl) ?_) | refine t_pass rfl rfl (by decide) ?_ | refine t_sv rfl (by first | exact rfl | exact ⟨_, rfl, rfl, rfl⟩) (by decide) ?_ | (refine kt_load ?_; (first | refine t_val (v_load (b := xbox l) rfl rfl rfl rfl) (by first | exact rfl | exact ⟨_, rfl, rfl, rfl⟩) rfl (bkN hx1) (by decide) ?_ | refine t_val (v_load (b := xbox l) rfl rfl rfl rfl) (by first | exact rfl | exact ⟨_, rfl, rfl, rfl⟩) rfl (bkN hx) (by decide) ?_ | refine t_val (v_load rfl rfl rfl rfl) (by first | exact rfl | exact ⟨_, rfl, rfl, rfl⟩) rfl rfl (by decide) ?_ | refine t_val (v_loade rfl rfl rfl) (by first | exact rfl | exact ⟨_, rfl, rfl, rfl⟩) rfl rfl (by decide) ?_)) | (refine kt_field ?_; (first | refine t_val (v_field rfl rfl) (by first | exact rfl | exact ⟨_, rfl, rfl, rfl⟩) rfl rfl (by decide) ?_ | refine t_val (v_fielde rfl rfl) (by first | exact rfl | exact ⟨_, rfl, rfl, rfl⟩) rfl rfl (by decide) ?_)) | (refine kt_index ?_; (first | refine t_val (v_index (ys := (endsS l).map fun x => [Dint x]) rfl (by omega) (idx he) rfl) (by first | exact rfl | exact ⟨_, rfl, rfl, rfl⟩) rfl rfl (by decide) ?_ | refine t_val (v_index (ys := l.map spc) rfl (by omega) (idx ht) rfl) (by first | exact rfl | exact ⟨_, rfl, rfl, rfl⟩) rfl rfl (by decide) ?_)) | (refine t_either rfl rfl (fun hg => ?_) (fun hg => ?_) <;> simp only [hg] <;> (try simp only [decide_eq_true_eq, decide_eq_false_iff_not, Bool.not_eq_true', Bool.not_eq_false'] at hg)))))
            all_goals try (exfalso; omega)
            refine r_ret Try.func60 _ (res_one rfl rfl) ⟨rfl, ?_⟩
            show upd H (d, 1000) _ = upd H (d, 1000) _
            have hoi : ov l s i = false := by simp only [ov, hgt, Bool.and_eq_false_iff, decide_eq_false_iff_not]; omega
            rw [hsp, List.filter_append, List.filter_cons, hoi, Bool.false_and, ← ho1]
            simp
end Go.Proofs.Ytiapeheclfkdmaa
namespace Go.Proofs.Ytiapeheclfkdmaa
open Go.Ab Go.Stab
set_option maxHeartbeats 20000000
set_option maxRecDepth 100000
set_option linter.unusedVariables false
set_option linter.unusedSectionVars false
set_option linter.unusedSimpArgs false
attribute [local irreducible] Run Ops Op1 Does Val Tr PureF Eff1 NF Rel EffV EffM

variable {X : Nat} [hX : XOk X]
theorem ovl_s (s : Span) (e : Nat) (H : Hf) (h1 : H 0 901 = some .gone) (h2 : H 0 902 = some .gone) (q1 : QuietM H (0, 901)) (q2 : QuietM H (0, 902)) :
    SpecV Try.prog 51 [.ptr (e, X) 0, .d (Dsp s)] H ⟨fun r H' => r = .v (.fn (.func 59) [] [.ptr (0, 901) 0, .ptr (0, 902) 0]) ∧ H' = upd (upd H (0, 901) (.box [.ptr (e, X) 0])) (0, 902) (.box ((spc s).map .d)), fun x => x = (0, 901) ∨ x = (0, 902), none⟩ := by
  refine specV_of Try.func51 (by kernel_rfl) rfl (by simp) ?_
  dsimp only [Try.f51]
  repeat' (first | (refine k_op1 ?_; (first | refine o_sv rfl (by decide) ?_ | (refine k_box ?_; (refine o_does (d_box rfl rfl rfl rfl rfl (by decide)) ?_)) | refine o_mkfn rfl rfl (by decide) ?_)) | (refine k_ops ?_; (first | refine o_go (by first | exact .inl rfl | exact .inr ⟨_, _, _, rfl, rfl, rfl⟩) ?_ | refine o_nil ?_)) | (refine k_run ?_; (first | refine r_seq ?_ | refine r_region ?_)))
  refine r_giveb 2 0 901 (q := .box [.ptr (e, X) 0]) rfl rfl h1 (.inl rfl) (by simp [quietHp, Blk.says, PV.says, PV.saysL, PV.lift, hX.n1, hX.n2]) q1 ?_
  have h2' : upd H (0, 901) (.box [.ptr (e, X) 0]) 0 902 = some .gone := upd_ne h2 (by simp)
  refine r_giveb 3 0 902 (q := .box ((spc s).map .d)) rfl rfl h2' (.inr rfl) (by simp [quietHp, Blk.says, PV.says, PV.saysL, PV.lift, hX.n1, hX.n2]) ?_ ?_
  · intro d t b hd hb
    simp only [upd] at hb
    split at hb
    · simp at hb; subst hb; simp [Blk.says, PV.says, PV.saysL, hX.n2]
    · exact q2 d t b hd hb
  exact r_ret Try.func51 _ (res_fn (.fn (.func 59) [] [.ptr (0, 901) 0, .ptr (0, 902) 0]) rfl rfl) ⟨rfl, rfl⟩
theorem ovl1_s (l : List Span) (s : Span) (keep : Nat → Bool) (ls : Nat) (hls : ls ≠ 1000) (hlen : l.length ≤ 4096) {Good : Nat → Nat → Hf → List Nat → Prop} (hg : GoodW X l s keep ls Good) (e : Nat) (H : Hf) (o : List Nat) (hG : Good 0 e H o) (hol : o.length + l.length ≤ 4096)
    (h1 : H 0 901 = some (.box [.ptr (e, X) 0])) (h2 : H 0 902 = some (.box ((spc s).map .d))) :
    SpecV Try.prog 59 [.yl (0, ls), .ptr (0, 901) 0, .ptr (0, 902) 0] H ⟨fun r H' => r = .v (.tup []) ∧ H' = upd H (0, 1000) (orow (o ++ (prt (ordS l) 0 l.length).filter fun i => ov l s i && keep i)), fun x => x = (0, 1000), none⟩ := by
  refine specV_of Try.func59 (by kernel_rfl) rfl (by simp) ?_
  dsimp only [Try.f59]
  have hx := hg.box hG
  have hE : Stab.Ends l (ordS l) (endsS l) 0 l.length := growE_ends l (ordS l) (l.length + 1) 0 l.length _ (by omega) (by omega) (by simp)
  have c1 : ∀ hp : Hp, quietHp (1, 1000) hp = true → SpecV Try.prog 60 [.ptr (e + 1, X) 0, I .i64 (0 : Int), I .i64 (l.length : Nat), .d (Dsp s), .yl (1, ls)] (push hp H) ⟨fun r H' => r = .v (B true) ∧ H' = push hp (upd H (0, 1000) (orow (o ++ (prt (ordS l) 0 l.length).filter fun i => ov l s i && keep i))), fun x => x = (1, 1000), none⟩ := fun hp hq => by
    have := walk_s l s keep ls hls hlen hg (l.length + 1) 0 l.length 1 (e + 1) (push hp H) o (hg.down hp hG hq) (by omega) (by omega) (by omega) (by omega) hE
    rw [push_updN hp H (0, 1000)] at this
    exact this
  repeat' (first | (refine k_op1 ?_; (refine o_specf (m := (0, 1000)) (c1 _ rfl) rfl (by simp [saysTm, PV.says, PV.saysL, PV.lift, PV.liftL, argTm, hls, hX.ne]) rfl (by decide) ?_)) | (refine k_ops ?_; (first | refine o_go (by first | exact .inl rfl | exact .inr ⟨_, _, _, rfl, rfl, rfl⟩) ?_ | refine o_nil ?_)) | (refine k_run ?_; (refine r_tr ?_)) | (refine k_tr ?_; (first | refine t_sv rfl (by first | exact rfl | exact ⟨_, rfl, rfl, rfl⟩) (by decide) ?_ | (refine kt_load ?_; (first | refine t_val (v_loadp (b := .box ((spc s).map .d)) rfl rfl rfl rfl) (by first | exact rfl | exact ⟨_, rfl, rfl, rfl⟩) rfl (bkN h2) (by decide) ?_ | refine t_val (v_load (b := .box [.ptr (e, X) 0]) rfl rfl rfl rfl) (by first | exact rfl | exact ⟨_, rfl, rfl, rfl⟩) rfl (bkN h1) (by decide) ?_ | refine t_val (v_load (b := xbox l) rfl rfl rfl rfl) (by first | exact rfl | exact ⟨_, rfl, rfl, rfl⟩) rfl (bkN hx) (by decide) ?_)) | (refine kt_field ?_; (refine t_val (v_field rfl rfl) (by first | exact rfl | exact ⟨_, rfl, rfl, rfl⟩) rfl rfl (by decide) ?_)) | (refine kt_blt ?_; (refine t_val (v_lenm rfl) (by first | exact rfl | exact ⟨_, rfl, rfl, rfl⟩) rfl rfl (by decide) ?_)) | (refine kt_call ?_; ((refine t_tail mix (by kernel_rfl) ?_) /- t_call -/)))))
  refine r_end Try.func59 _ (res_none rfl) ⟨rfl, rfl⟩
end Go.Proofs.Ytiapeheclfkdmaa
