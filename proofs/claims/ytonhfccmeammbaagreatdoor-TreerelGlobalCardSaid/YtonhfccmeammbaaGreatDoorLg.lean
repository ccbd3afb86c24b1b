/- A law holds for every input; no condition. -/
import Derived.Test.YtonhfccmeammbaaGreatDoorWg
import Derived.Test.YtonhfccmeammbaaGreatDoorFd
import Derived.Test.YtonhfccmeammbaaGreatDoorCards
import Derived.Test.YtonhfccmeammbaaGreatDoorTie
import Derived.Lay
import Derived.LaidMore
import Derived.ProofKit
import Derived.OpenShut
import Derived.Stop.Joined
import Derived.Deep.DeepHandedRow
set_option linter.all false
set_option linter.unusedVariables false
set_option linter.unusedSimpArgs false
namespace Go.Proofs.YtonhfccmeammbaaGreatDoor
open Go.Ab
set_option maxHeartbeats 20000000
set_option linter.unusedSimpArgs false
set_option linter.unusedVariables false

section
variable {P : Program} {f : FuncId} {R : Post} {k : List Item} {all : Array Oper} {l : List Oper} {n : Nat} {tm : List (Nat × PV)} {hp : Hp} {up : Hf} {d : Nat} {ty : TypeId} {pos : String} {aft : Array Edge} {gd : Option (Nat × Bool)}
theorem o_ren (a b : Nat) {q : Blk} (hb : Ab.look hp a = some q) (hab : (!(a == b) && !q.says (0, b)) = true) (h : Ops P f R all l k ⟨n, renTm a b tm, (b, q) :: (a, .gone) :: renHp a b hp, up⟩) : Ops P f R all l k ⟨n, tm, hp, up⟩ :=
  fun is his => r_ren a b hb hab (h is his)
/-- a tape is made -/
theorem o_new {args : List Operand} {ats : Array TypeId} {li : List Int} (hev : St.evs ⟨n, tm, hp, up⟩ args = some [.d (ints li)]) (hl : li.length ≤ 9223372036854775807) (hd : d < n) (hfr : (freeHp d hp && freeTm d tm) = true)
    (h : Ops Tryz.prog f R all l k ⟨n, (d, .ptr (0, d) 0) :: tm, (d, tapeB (li.take 120) 0) :: hp, up⟩) :
    Op1 Tryz.prog f R all ⟨some d, .call ⟨.value (.func 9), args.toArray, ats⟩, ty, pos, aft, gd⟩ l k ⟨n, tm, hp, up⟩ :=
  o_calln hev (new_s li hl _) hd hfr fun r H ⟨h1, h2⟩ => ⟨_, h1, h2, rfl, rfl, h⟩
end
attribute [local irreducible] Run Ops Op1 Does Val Tr PureF Eff1 NF Rel tnum tnext
theorem common_cases {c : Corpus} {a b : Int} : commonOf c a b = -1 ∨ ∃ (k : Nat) (nd : Node), commonOf c a b = (k : Int) ∧ c.nodes[k]? = some nd ∧ nd.b ≤ min a b ∧ max a b < nd.e := by
  unfold commonOf
  split
  · rcases last_cases (nodesOf c (min a b) (max a b + 1)) with e | ⟨y, hy, e⟩
    · left; rw [e]; rfl
    · right
      rw [e]
      have hm := List.mem_of_getElem? hy
      unfold nodesOf at hm
      split at hm
      · simp only [sel, List.mem_map, List.mem_filter, List.mem_range] at hm
        obtain ⟨k, ⟨hk, hp⟩, rfl⟩ := hm
        refine ⟨k, _, rfl, List.getElem?_eq_getElem hk, ?_⟩
        rw [holdsSpan, List.getElem?_eq_getElem hk] at hp
        simp only [Bool.and_eq_true, decide_eq_true_eq] at hp
        omega
      · simp at hm
  · left; rfl
theorem path_route {c : Corpus} (hw : Wf c) {a b : Int} (ha : token c a = true) (hb : token c b = true) (g : Lf) (hg : g.args = (routeOf c a b).getD []) : pathG c g a b = (routeOf c a b).isSome := by
  unfold pathG
  have hfx : ∀ (l : List Int) (k : Nat), (b ∉ l ∧ fidx (fun y => decide (b = y)) l k = -1) ∨ ∃ j, l[j]? = some b ∧ fidx (fun y => decide (b = y)) l k = ((k + j : Nat) : Int) := by
    intro l
    induction l with
    | nil => intro k; left; simp [fidx]
    | cons x r ih =>
      intro k
      by_cases e : b = x
      · right; exact ⟨0, by simp [e], by simp [fidx, e]⟩
      · rcases ih (k + 1) with ⟨h1, h2⟩ | ⟨j, h1, h2⟩
        · left; exact ⟨by simp [e, h1], by simp [fidx, e, h2]⟩
        · right; exact ⟨j + 1, by simpa using h1, by simp only [fidx]; rw [if_neg (by simpa using e), h2]; congr 1; omega⟩
  rcases hfx (way c a) 0 with ⟨h1, h2⟩ | ⟨j, h1, h2⟩
  · rw [h2]
    have : routeOf c a b = none := by
      rw [routeOf, if_pos (by simp [ha, hb])]
      exact routeGo_none c b (way c a) (fun j _ e => h1 (List.mem_of_getElem? e))
    rw [this]; rfl
  · rw [h2, hg, routeOf_way hw ha h1]
    have hjl := (List.getElem?_eq_some_iff.1 h1).1
    have hwl : (way c a).length = (up c a).length + 1 := rfl
    simp only [Option.getD_some, Option.isSome_some]
    rw [decide_eq_true (by omega), decide_eq_true]
    · rfl
    · rw [relsG, ← List.map_take, List.take_take]
      congr 2; omega
theorem routeOf_len (c : Corpus) (a b : Int) : ((routeOf c a b).getD []).length ≤ c.tokens.length + 1 := by
  unfold routeOf
  split
  · cases hr : routeGo c b (a :: up c a) with
    | none => exact Nat.zero_le _
    | some r => have := routeGo_len c b _ _ hr; have := way_len c a; simp only [Option.getD_some]; simp only [way] at this; omega
  · exact Nat.zero_le _
def sX : Str := ⟨#[120]⟩
def sY : Str := ⟨#[121]⟩
theorem tg_law (l : List Int) (i j : Int) (hl : l.length ≤ 9223372036854775807) : PureF Tryz.prog 8 [.d (ints l), I .i64 i, I .i64 j] (B true) := by
  refine pure_of fun H => ?_
  refine spec_of Tryz.func8 (by kernel_rfl) rfl (by simp) ?_
  dsimp only [Tryz.f8]
  have hl2 : (l.take 120).length ≤ 120 := by simp; omega
  repeat' (first | (refine k_op1 ?_; (first | refine o_sv rfl (by decide) ?_ | (refine k_load ?_; (refine o_val (v_loadp rfl rfl rfl rfl) rfl rfl (by decide) ?_)) | (refine k_bin ?_; (refine o_val (v_add (wi64 (by omega) (by omega))) rfl rfl (by decide) ?_)) | (refine k_blt ?_; (refine o_val (v_lenm rfl) rfl rfl (by decide) ?_)) | (refine k_call ?_; (first | (refine o_rel1 (corpus_r _ 0 6 hl2 (by decide) (by decide)) rfl rfl (by decide) ?_; rintro ⟨c, k1⟩ ⟨⟨s, hs, hc⟩, -⟩; simp only at hc ⊢; have hw := hc.wf (by omega); have ht := hw.tok; have ht0 := hw.tok0; have hnn := hc.nnodes; have hm1 := modv_range (x := i) (n := (c.tokens.length : Int)) (by omega); have hm2 := modv_range (x := j) (n := (c.tokens.length : Int)) (by omega); have hul := up_len c) | refine o_fn (up_s c _ (by omega)) rfl (by decide) ?_)) | (refine k_store ?_; (refine o_store0 rfl rfl rfl rfl rfl rfl ?_)) | (refine k_alloc ?_; (refine o_does (d_alloc rfl rfl (by decide)) ?_)) | (refine k_build ?_; (refine o_build rfl rfl rfl rfl rfl rfl rfl (by decide) ?_)) | (refine k_lit ?_; (first | refine o_lit (ys := [[Dint (modv i c.tokens.length)], [Dint (modv j c.tokens.length)]]) rfl rfl rfl rfl rfl rfl rfl rfl (by decide) ?_ | refine o_lit rfl rfl rfl rfl rfl rfl rfl rfl (by decide) ?_)) | (refine o_new (d := 23) rfl hl (by decide) rfl ?_; refine o_ren 23 500 rfl rfl ?_))) | (refine k_ops ?_; (first | refine o_go (by first | exact .inl rfl | exact .inr ⟨_, _, _, rfl, rfl, rfl⟩) ?_ | refine o_nil ?_)) | (refine k_run ?_; (first | refine r_seq ?_ | refine r_region ?_ | refine r_block ?_ | refine r_tr ?_)) | (refine k_tr ?_; (first | (refine kt_end ?_; refine t_end mix (by kernel_rfl) ?_) | refine t_sv rfl (by first | exact rfl | exact ⟨_, rfl, rfl, rfl⟩) (by decide) ?_ | (refine kt_load ?_; (refine t_val (v_load rfl rfl rfl rfl) (by first | exact rfl | exact ⟨_, rfl, rfl, rfl⟩) rfl rfl (by decide) ?_)) | (refine kt_field ?_; (refine t_val (v_field rfl rfl) (by first | exact rfl | exact ⟨_, rfl, rfl, rfl⟩) rfl rfl (by decide) ?_)) | (refine kt_blt ?_; (refine t_val (v_lenm rfl) (by first | exact rfl | exact ⟨_, rfl, rfl, rfl⟩) rfl rfl (by decide) ?_)) | (refine kt_call ?_; (refine t_fn (mod_s _ _ (by omega)) (by first | exact rfl | exact ⟨_, rfl, rfl, rfl⟩) rfl (by decide) ?_)))))
  obtain ⟨a, hva⟩ : ∃ v, modv i c.tokens.length = v := ⟨_, rfl⟩
  obtain ⟨b, hvb⟩ : ∃ v, modv j c.tokens.length = v := ⟨_, rfl⟩
  simp only [hva, hvb] at hm1 hm2 ⊢
  have ha : token c a = true := (token_iff c a).2 hm1
  have hb : token c b = true := (token_iff c b).2 hm2
  have hua := hul a
  refine r_loop ?_
  refine r_less (r_inv (fun q : Nat => ⟨146, [(1, I .i64 a), (2, I .i64 b), (7, .ptr (0, 7) 0), (8, .d (strs labXY)), (9, .ptr (0, 9) 0), (10, .d (ints (up c a))), (11, B (((up c a).take q).any fun y => decide (y = b))), (46, .d (ints (up c a))), (47, I .i64 (up c a).length), (48, I .i64 (q : Nat))], [(9, .box [I .i64 a, I .i64 (a + 1), .d (ints [a, b])]), (7, .box (c.cs.map .d))], H⟩) (fun q => q ≤ (up c a).length) (fun q => (up c a).length - q) ?_ 0 (Nat.zero_le _)) ?_ ?_
  · intro k hk ih
    by_cases hlt : k < (up c a).length
    · obtain ⟨x, hx⟩ : ∃ x, (up c a)[k]? = some x := ⟨_, List.getElem?_eq_getElem hlt⟩
      have hnx : ((up c a).take (k + 1)).any (fun y => decide (y = b)) = (((up c a).take k).any (fun y => decide (y = b)) || decide (x = b)) := by
        rw [List.take_add_one, hx]; simp
      repeat' (first | (refine k_op1 ?_; (first | refine o_sv rfl (by decide) ?_ | (refine k_load ?_; (first | refine o_val (v_loada rfl rfl rfl) rfl rfl (by decide) ?_ | refine o_val (v_loade rfl rfl rfl) rfl rfl (by decide) ?_)) | (refine k_index ?_; (refine o_val (v_index rfl (by omega) (idx hx) rfl) rfl rfl (by decide) ?_)) | (refine k_bin ?_; (refine o_val (v_add (wi64 (by omega) (by omega))) rfl rfl (by decide) ?_)))) | (refine k_ops ?_; (first | refine o_go (by first | exact .inl rfl | exact .inr ⟨_, _, _, rfl, rfl, rfl⟩) ?_ | refine o_nil ?_ | refine o_no rfl rfl (by decide) ?_ | refine o_case rfl rfl (fun _ => ?_) (fun _ => ?_))) | (refine k_run ?_; (first | refine r_seq ?_ | refine r_region ?_ | refine r_skip ?_ | refine r_block ?_ | refine r_inBlock ?_ | refine r_if rfl (fun _ => ?_) (fun _ => ?_) | refine r_exit rfl ?_)))
      all_goals try (exfalso; omega)
      all_goals
        refine r_less (ih (k + 1) (by omega) (by omega)) ?_ rfl
        first
          | rfl
          | (rw [hnx, (by assumption : ((up c a).take k).any (fun y => decide (y = b)) = true)]; rfl)
          | (rw [hnx, (by assumption : ((up c a).take k).any (fun y => decide (y = b)) = false)]; rfl)
    · obtain rfl : k = (up c a).length := by omega
      rw [List.take_length]
      have hn0 := hnn
      have hnn : c.nodes.length ≤ 1000000 := by omega
      have hrl := routeOf_len c a b
      have G6 : LfOK ⟨6, sX, sY, ⟨#[]⟩, 0, 0, []⟩ := ⟨.inl rfl, fun _ => rfl, fun _ => ⟨rfl, rfl⟩, fun _ => rfl, fun e => absurd (show (6 : Int) = 10 from e) (by decide), (show (0:Nat) ≤ 1000000 by decide)⟩
      have G7 : LfOK ⟨7, sX, sY, ⟨#[]⟩, 0, 0, []⟩ := ⟨.inr (.inl rfl), fun _ => rfl, fun _ => ⟨rfl, rfl⟩, fun _ => rfl, fun e => absurd (show (7 : Int) = 10 from e) (by decide), (show (0:Nat) ≤ 1000000 by decide)⟩
      have G8 : LfOK ⟨8, sX, sY, ⟨#[]⟩, 0, 0, (routeOf c a b).getD []⟩ := ⟨.inr (.inr (.inl rfl)), fun _ => rfl, fun _ => ⟨rfl, rfl⟩, fun e => absurd rfl e, fun e => absurd (show (8 : Int) = 10 from e) (by decide), by simp only; omega⟩
      have G9 : ∀ s, LfOK ⟨9, sX, sY, s, 0, 0, []⟩ := fun s => ⟨.inr (.inr (.inr (.inl rfl))), fun e => absurd rfl e, fun _ => ⟨rfl, rfl⟩, fun _ => rfl, fun e => absurd (show (9 : Int) = 10 from e) (by decide), (show (0:Nat) ≤ 1000000 by decide)⟩
      have GA : LfOK ⟨10, sX, ⟨#[]⟩, ⟨#[]⟩, ((up c a).length : Int), ((up c a).length : Int), []⟩ := ⟨.inr (.inr (.inr (.inr rfl))), fun _ => rfl, fun e => absurd rfl e, fun _ => rfl, fun _ => rfl, (show (0:Nat) ≤ 1000000 by decide)⟩
      have H6 := holdsG_s hw _ G6 rfl (fun _ => rfl) a (a + 1) ha hb hnn
      have H7 := holdsG_s hw _ G7 rfl (fun _ => rfl) a (a + 1) ha hb hnn
      have H8 := holdsG_s hw _ G8 rfl (fun _ => rfl) a (a + 1) ha hb hnn
      have H9 := fun s => holdsG_s hw _ (G9 s) rfl (fun _ => rfl) a (a + 1) ha hb hnn
      have HA := holdsG_s hw _ GA rfl (fun e => absurd rfl e) a (a + 1) ha hb hnn
      have V6 : leafB c ⟨6, sX, sY, ⟨#[]⟩, 0, 0, []⟩ a b = decide ((up c a)[0]? = some b) := rfl
      have V7 : leafB c ⟨7, sX, sY, ⟨#[]⟩, 0, 0, []⟩ a b = (up c a).any fun y => decide (y = b) := by
        show ((up c a).any fun y => decide (b = y)) = _
        congr 1; funext y; exact decide_eq_decide.2 eq_comm
      have V8 : leafB c ⟨8, sX, sY, ⟨#[]⟩, 0, 0, (routeOf c a b).getD []⟩ a b = (routeOf c a b).isSome := path_route hw ha hb _ rfl
      have VA : leafB c ⟨10, sX, ⟨#[]⟩, ⟨#[]⟩, ((up c a).length : Int), ((up c a).length : Int), []⟩ a b = true := by simp [leafB]
      rw [V6] at H6; rw [V7] at H7; rw [V8] at H8; rw [VA] at HA
      have hcm := common_s29 c a b hnn ht
      have V9 : ∀ (k : Nat) (nd : Node), c.nodes[k]? = some nd → nd.b ≤ min a b → max a b < nd.e → leafB c ⟨9, sX, sY, nd.label, 0, 0, []⟩ a b = true := by
        intro k nd h1 h2 h3
        show c.nodes.any (nodeP _ a b) = true
        rw [List.any_eq_true]
        exact ⟨nd, List.mem_of_getElem? h1, by simp [nodeP, h2, h3]⟩
      have hcc := common_cases (c := c) (a := a) (b := b)
      generalize hpb : (routeOf c a b).isSome = pb at H8 ⊢
      have hroute : PureF Tryz.prog 22 [c.d, I .i64 a, I .i64 b] (.tup [.d (strs ((routeOf c a b).getD [])), B pb]) := by rw [← hpb]; exact route_s hw a b
      generalize (routeOf c a b).getD [] = rr at *
      generalize ((up c a).any fun y => decide (y = b)) = ab at *
      obtain ⟨m, hm⟩ : ∃ m, commonOf c a b = m := ⟨_, rfl⟩
      rw [hm] at hcm hcc
      clear ih
      have hxe : ∀ x r, up c a = x :: r → decide ((up c a)[0]? = some b) = decide (x = b) := fun x r e => by rw [e]; simp
      rcases hcc with hm1 | ⟨k, nd, hmk, hk1, hk2, hk3⟩
      · subst hm1
        cases hu : up c a with
        | nil =>
          rw [hu] at H6 HA hua
          repeat' (first | (refine k_op1 ?_; (first | refine o_sv rfl (by decide) ?_ | (refine k_load ?_; (first | refine o_val (v_loada rfl rfl rfl) rfl rfl (by decide) ?_ | refine o_val (v_load rfl rfl rfl rfl) rfl rfl (by decide) ?_ | refine o_val (v_loadp rfl rfl rfl rfl) rfl rfl (by decide) ?_)) | (refine k_field ?_; (refine o_val (v_field rfl rfl) rfl rfl (by decide) ?_)) | (refine k_bin ?_; (refine o_val (v_beql rfl) rfl rfl (by decide) ?_)) | (refine k_blt ?_; (refine o_val (v_lenm rfl) rfl rfl (by decide) ?_)) | (refine k_call ?_; (first | refine o_fn hroute rfl (by decide) ?_ | refine o_fn H6 rfl (by decide) ?_ | refine o_fn H7 rfl (by decide) ?_ | refine o_fn H8 rfl (by decide) ?_ | refine o_fn HA rfl (by decide) ?_ | refine o_fn hcm rfl (by decide) ?_ | refine o_fn known_s rfl (by decide) ?_)) | (refine k_build ?_; (refine o_build rfl rfl rfl rfl rfl rfl rfl (by decide) ?_)))) | (refine k_ops ?_; (first | refine o_go (by first | exact .inl rfl | exact .inr ⟨_, _, _, rfl, rfl, rfl⟩) ?_ | refine o_nil ?_ | refine o_no rfl rfl (by decide) ?_ | refine o_casep rfl rfl (fun _ => ?_) (fun _ => ?_))) | (refine k_run ?_; (first | refine r_seq ?_ | refine r_region ?_ | refine r_false rfl ?_ | refine r_skip ?_ | refine r_tr ?_ | refine r_if rfl (fun _ => ?_) (fun _ => ?_) | refine r_exit rfl ?_)) | (refine k_tr ?_; (first | (refine kt_end ?_; refine t_end mix (by kernel_rfl) ?_) | refine t_pass rfl rfl (by decide) ?_ | refine t_sv rfl (by first | exact rfl | exact ⟨_, rfl, rfl, rfl⟩) (by decide) ?_)))
          all_goals try (exfalso; omega)
          all_goals first
            | exact r_ret Tryz.func8 _ (res_one rfl rfl) ⟨rfl, rfl⟩
            | (exfalso; simp_all; done)
        | cons x r =>
          rw [hxe x r hu] at H6
          rw [hu] at HA hua
          have h0x : (x :: r)[(0 : Int).toNat]? = some x := rfl
          repeat' (first | (refine k_op1 ?_; (first | refine o_sv rfl (by decide) ?_ | (refine k_load ?_; (first | refine o_val (v_loada rfl rfl rfl) rfl rfl (by decide) ?_ | refine o_val (v_load rfl rfl rfl rfl) rfl rfl (by decide) ?_ | refine o_val (v_loade rfl rfl rfl) rfl rfl (by decide) ?_ | refine o_val (v_loadp rfl rfl rfl rfl) rfl rfl (by decide) ?_)) | (refine k_field ?_; (refine o_val (v_field rfl rfl) rfl rfl (by decide) ?_)) | (refine k_index ?_; (refine o_val (v_index rfl (by omega) (idxi h0x) rfl) rfl rfl (by decide) ?_)) | (refine k_bin ?_; (refine o_val (v_beql rfl) rfl rfl (by decide) ?_)) | (refine k_blt ?_; (refine o_val (v_lenm rfl) rfl rfl (by decide) ?_)) | (refine k_call ?_; (first | refine o_fn hroute rfl (by decide) ?_ | refine o_fn H6 rfl (by decide) ?_ | refine o_fn H7 rfl (by decide) ?_ | refine o_fn H8 rfl (by decide) ?_ | refine o_fn HA rfl (by decide) ?_ | refine o_fn hcm rfl (by decide) ?_ | refine o_fn known_s rfl (by decide) ?_)) | (refine k_build ?_; (refine o_build rfl rfl rfl rfl rfl rfl rfl (by decide) ?_)))) | (refine k_ops ?_; (first | refine o_go (by first | exact .inl rfl | exact .inr ⟨_, _, _, rfl, rfl, rfl⟩) ?_ | refine o_nil ?_ | refine o_no rfl rfl (by decide) ?_ | refine o_casep rfl rfl (fun _ => ?_) (fun _ => ?_))) | (refine k_run ?_; (first | refine r_seq ?_ | refine r_region ?_ | refine r_skip ?_ | refine r_block ?_ | refine r_tr ?_ | refine r_if rfl (fun _ => ?_) (fun _ => ?_) | refine r_exit rfl ?_)) | (refine k_tr ?_; (first | (refine kt_end ?_; refine t_end mix (by kernel_rfl) ?_) | refine t_pass rfl rfl (by decide) ?_ | refine t_sv rfl (by first | exact rfl | exact ⟨_, rfl, rfl, rfl⟩) (by decide) ?_)))
          all_goals try (exfalso; omega)
          all_goals first
            | exact r_ret Tryz.func8 _ (res_one rfl rfl) ⟨rfl, rfl⟩
            | (exfalso; simp_all; done)
      · subst hmk
        have H9k := H9 nd.label
        rw [V9 k nd hk1 hk2 hk3] at H9k
        have hkl := (List.getElem?_eq_some_iff.1 hk1).1
        cases hu : up c a with
        | nil =>
          rw [hu] at H6 HA hua
          repeat' (first | (refine k_op1 ?_; (first | refine o_sv rfl (by decide) ?_ | (refine k_load ?_; (first | refine o_val (v_loada rfl rfl rfl) rfl rfl (by decide) ?_ | refine o_val (v_load rfl rfl rfl rfl) rfl rfl (by decide) ?_ | refine o_val (v_loadp rfl rfl rfl rfl) rfl rfl (by decide) ?_)) | (refine k_field ?_; (refine o_val (v_field rfl rfl) rfl rfl (by decide) ?_)) | (refine k_bin ?_; (refine o_val (v_beql rfl) rfl rfl (by decide) ?_)) | (refine k_blt ?_; (refine o_val (v_lenm rfl) rfl rfl (by decide) ?_)) | (refine k_call ?_; (first | refine o_fn hroute rfl (by decide) ?_ | refine o_fn H6 rfl (by decide) ?_ | refine o_fn H7 rfl (by decide) ?_ | refine o_fn H8 rfl (by decide) ?_ | refine o_fn HA rfl (by decide) ?_ | refine o_fn hcm rfl (by decide) ?_ | refine o_fn known_s rfl (by decide) ?_)) | (refine k_build ?_; (refine o_build rfl rfl rfl rfl rfl rfl rfl (by decide) ?_)))) | (refine k_ops ?_; (first | refine o_go (by first | exact .inl rfl | exact .inr ⟨_, _, _, rfl, rfl, rfl⟩) ?_ | refine o_nil ?_ | refine o_no rfl rfl (by decide) ?_ | refine o_casep rfl rfl (fun _ => ?_) (fun _ => ?_))) | (refine k_run ?_; (first | refine r_seq ?_ | refine r_region ?_ | refine r_false rfl ?_ | refine r_skip ?_ | refine r_tr ?_ | refine r_if rfl (fun _ => ?_) (fun _ => ?_) | refine r_exit rfl ?_)) | (refine k_tr ?_; (first | (refine kt_end ?_; refine t_end mix (by kernel_rfl) ?_) | refine t_sv rfl (by first | exact rfl | exact ⟨_, rfl, rfl, rfl⟩) (by decide) ?_ | (refine kt_load ?_; (first | refine t_val (v_loada rfl rfl rfl) (by first | exact rfl | exact ⟨_, rfl, rfl, rfl⟩) rfl rfl (by decide) ?_ | refine t_val (v_load rfl rfl rfl rfl) (by first | exact rfl | exact ⟨_, rfl, rfl, rfl⟩) rfl rfl (by decide) ?_ | refine t_val (v_loade rfl rfl rfl) (by first | exact rfl | exact ⟨_, rfl, rfl, rfl⟩) rfl rfl (by decide) ?_ | refine t_val (v_loadp rfl rfl rfl rfl) (by first | exact rfl | exact ⟨_, rfl, rfl, rfl⟩) rfl rfl (by decide) ?_)) | (refine kt_field ?_; (first | refine t_val (v_field rfl rfl) (by first | exact rfl | exact ⟨_, rfl, rfl, rfl⟩) rfl rfl (by decide) ?_ | refine t_val (v_fielde rfl rfl) (by first | exact rfl | exact ⟨_, rfl, rfl, rfl⟩) rfl rfl (by decide) ?_)) | (refine kt_index ?_; (refine t_val (v_index rfl (by omega) (idx hk1) rfl) (by first | exact rfl | exact ⟨_, rfl, rfl, rfl⟩) rfl rfl (by decide) ?_)) | (refine kt_call ?_; (refine t_fn H9k (by first | exact rfl | exact ⟨_, rfl, rfl, rfl⟩) rfl (by decide) ?_)) | (refine kt_build ?_; (refine t_build (by first | exact rfl | exact ⟨_, rfl, rfl, rfl⟩) rfl rfl rfl rfl rfl rfl rfl (by decide) ?_)))))
          all_goals try (exfalso; omega)
          all_goals first
            | exact r_ret Tryz.func8 _ (res_one rfl rfl) ⟨rfl, rfl⟩
            | (exfalso; simp_all; done)
        | cons x r =>
          rw [hxe x r hu] at H6
          rw [hu] at HA hua
          have h0x : (x :: r)[(0 : Int).toNat]? = some x := rfl
          repeat' (first | (refine k_op1 ?_; (first | refine o_sv rfl (by decide) ?_ | (refine k_load ?_; (first | refine o_val (v_loada rfl rfl rfl) rfl rfl (by decide) ?_ | refine o_val (v_load rfl rfl rfl rfl) rfl rfl (by decide) ?_ | refine o_val (v_loade rfl rfl rfl) rfl rfl (by decide) ?_ | refine o_val (v_loadp rfl rfl rfl rfl) rfl rfl (by decide) ?_)) | (refine k_field ?_; (refine o_val (v_field rfl rfl) rfl rfl (by decide) ?_)) | (refine k_index ?_; (refine o_val (v_index rfl (by omega) (idxi h0x) rfl) rfl rfl (by decide) ?_)) | (refine k_bin ?_; (refine o_val (v_beql rfl) rfl rfl (by decide) ?_)) | (refine k_blt ?_; (refine o_val (v_lenm rfl) rfl rfl (by decide) ?_)) | (refine k_call ?_; (first | refine o_fn hroute rfl (by decide) ?_ | refine o_fn H6 rfl (by decide) ?_ | refine o_fn H7 rfl (by decide) ?_ | refine o_fn H8 rfl (by decide) ?_ | refine o_fn HA rfl (by decide) ?_ | refine o_fn hcm rfl (by decide) ?_ | refine o_fn known_s rfl (by decide) ?_)) | (refine k_build ?_; (refine o_build rfl rfl rfl rfl rfl rfl rfl (by decide) ?_)))) | (refine k_ops ?_; (first | refine o_go (by first | exact .inl rfl | exact .inr ⟨_, _, _, rfl, rfl, rfl⟩) ?_ | refine o_nil ?_ | refine o_no rfl rfl (by decide) ?_ | refine o_casep rfl rfl (fun _ => ?_) (fun _ => ?_))) | (refine k_run ?_; (first | refine r_seq ?_ | refine r_region ?_ | refine r_skip ?_ | refine r_block ?_ | refine r_tr ?_ | refine r_if rfl (fun _ => ?_) (fun _ => ?_) | refine r_exit rfl ?_)) | (refine k_tr ?_; (first | (refine kt_end ?_; refine t_end mix (by kernel_rfl) ?_) | refine t_sv rfl (by first | exact rfl | exact ⟨_, rfl, rfl, rfl⟩) (by decide) ?_ | (refine kt_load ?_; (first | refine t_val (v_loada rfl rfl rfl) (by first | exact rfl | exact ⟨_, rfl, rfl, rfl⟩) rfl rfl (by decide) ?_ | refine t_val (v_load rfl rfl rfl rfl) (by first | exact rfl | exact ⟨_, rfl, rfl, rfl⟩) rfl rfl (by decide) ?_ | refine t_val (v_loade rfl rfl rfl) (by first | exact rfl | exact ⟨_, rfl, rfl, rfl⟩) rfl rfl (by decide) ?_ | refine t_val (v_loadp rfl rfl rfl rfl) (by first | exact rfl | exact ⟨_, rfl, rfl, rfl⟩) rfl rfl (by decide) ?_)) | (refine kt_field ?_; (first | refine t_val (v_field rfl rfl) (by first | exact rfl | exact ⟨_, rfl, rfl, rfl⟩) rfl rfl (by decide) ?_ | refine t_val (v_fielde rfl rfl) (by first | exact rfl | exact ⟨_, rfl, rfl, rfl⟩) rfl rfl (by decide) ?_)) | (refine kt_index ?_; (refine t_val (v_index rfl (by omega) (idx hk1) rfl) (by first | exact rfl | exact ⟨_, rfl, rfl, rfl⟩) rfl rfl (by decide) ?_)) | (refine kt_call ?_; (refine t_fn H9k (by first | exact rfl | exact ⟨_, rfl, rfl, rfl⟩) rfl (by decide) ?_)) | (refine kt_build ?_; (refine t_build (by first | exact rfl | exact ⟨_, rfl, rfl, rfl⟩) rfl rfl rfl rfl rfl rfl rfl (by decide) ?_)))))
          all_goals try (exfalso; omega)
          all_goals first
            | exact r_ret Tryz.func8 _ (res_one rfl rfl) ⟨rfl, rfl⟩
            | (exfalso; simp_all; done)
  · rfl
  · rfl
end Go.Proofs.YtonhfccmeammbaaGreatDoor
namespace Go.Proofs.YtonhfccmeammbaaGreatDoor
open Go.Ab Go.ChangeShapes Go.WideShapes Go.ChangeAt Go.RowKit
set_option linter.unusedVariables false
set_option linter.unusedSimpArgs false
set_option maxRecDepth 100000
set_option maxHeartbeats 20000000
theorem treerelGlobal_met (os : Os) : laidMetH Tryz.prog Rows.treerelGlobalRow.laid ((World.laidAll Tryz.prog os Rows.treerelGlobalRow.laid).forCall (fun _ _ => 0) ⟨#[], #[Value.slice none 0 0, Value.int .i64 0, Value.int .i64 0], []⟩).memory := by
  rw [MakeChecks.laidMetH_plain _ _ _ (by kernel_rfl)]
  exact laidMet_laidAll _ (by kernel_rfl) (by kernel_rfl)
theorem treerelGlobal_reads (os : Os) {H : Type} (enc : TypeId × Value → H) : DataW.whole enc Tryz.prog ((World.laidAll Tryz.prog os Rows.treerelGlobalRow.laid).forCall (fun _ _ => 0) ⟨#[], #[Value.slice none 0 0, Value.int .i64 0, Value.int .i64 0], []⟩).memory Tryz.f8.params.toList Rows.treerelGlobalSpec.vars false #[Value.slice none 0 0, Value.int .i64 0, Value.int .i64 0].toList 8 = some ([.nil, .lit (.int .i64 0), .lit (.int .i64 0)], [], []) := by kernel_rfl
theorem treerelGlobal_lifted (os : Os) (started : os.Started) (H : Type) (enc : TypeId × Value → H) (F : Stop.Interp) :
    ReturnsInHanded {} Tryz.checked os 8 .any ((OpenSpec.ofChange Rows.treerelGlobalSpec).preRow enc Tryz.prog Tryz.f8 Rows.treerelGlobalRow.domain false Rows.treerelGlobalRow.laid) (((OpenSpec.ofChange Rows.treerelGlobalSpec).at F).post enc Tryz.prog Tryz.f8 false true false false) := by
  have hx := treerelGlobal_reads os enc
  refine returnsInHanded_of_row (C := Tryz.checked) (s := OpenSpec.ofChange Rows.treerelGlobalSpec) (by kernel_rfl) started (by kernel_rfl) Tryz.func8
    (witness_row_at (enc := enc) (C := Tryz.checked) false (World.laidAll Tryz.prog os Rows.treerelGlobalRow.laid) #[Value.slice none 0 0, Value.int .i64 0, Value.int .i64 0] (World.laidAll_os _ _ _) (by kernel_rfl) (by kernel_rfl) (by kernel_rfl)
      (OpenSpec.preRow_of_cond 8 hx (by kernel_rfl) (fun k hk => by cases hk) (by kernel_rfl) (treerelGlobal_met os))) ?_
  intro W base args ds gs before hval0 hW _ _ _ _ _ _
  have hval : ∀ (j : Nat) t v, Tryz.f8.params[j]? = some t → args[j]? = some v → Value.okWide Tryz.prog W .any base t v := hval0
  have hW2 : DataW.Whole enc Tryz.prog Tryz.f8.params.toList Rows.treerelGlobalSpec.vars false W args.toList ds gs before := hW
  obtain ⟨p, q, hA0, hV, rfl, hfz, hnd⟩ := hW
  have hA : DataW.TrodAll enc Tryz.prog W 0 (fun _ => true) true Tryz.f8.params.toList args.toList ds p := hA0
  rw [Tryz.params8] at hA hval
  obtain ⟨v0, vs0, d0, ds0, p0, q0, e0, rfl, rfl, h0, r0⟩ := trodAll_cons hA
  obtain ⟨v1, vs1, d1, ds1, p1, q1, rfl, rfl, rfl, h1, r1⟩ := trodAll_cons r0
  obtain ⟨v2, vs2, d2, ds2, p2, q2, rfl, rfl, rfl, h2, r2⟩ := trodAll_cons r1
  obtain ⟨rfl, rfl, rfl⟩ := trodAll_nil r2
  obtain rfl : args = #[v0, v1, v2] := by cases args; simp_all
  obtain ⟨a0, l0, x0⟩ := in_ints (k := .i64) (e := 3) (by kernel_rfl) (by kernel_rfl) (by kernel_rfl) (hval 0 22 v0 rfl rfl) h0
  obtain ⟨a1, rfl, rfl, rfl, w1⟩ := open_int (k := .i64) (by kernel_rfl) (hval 1 3 v1 rfl rfl) h1
  obtain ⟨a2, rfl, rfl, rfl, w2⟩ := open_int (k := .i64) (by kernel_rfl) (hval 2 3 v2 rfl rfl) h2
  have key : Calls Tryz.prog 8 #[v0, .int .i64 a1, .int .i64 a2] W fun e W2 => ∃ v, e = .returned v ∧ Rows.treerelGlobalSpec.post enc Tryz.prog Tryz.f8 false true false false W #[v0, .int .i64 a1, .int .i64 a2] v W2 := by
    refine (law_run (P := Tryz.prog) (vs := [v0, .int .i64 a1, .int .i64 a2]) (tg_law a0 a1 a2 l0) W rfl ?_).mono ?_
    · intro j pp v hj hv
      match j, hj, hv with
      | 0, hj, hv => simp at hj hv; subst hj; subst hv; exact .d _ _ x0
      | 1, hj, hv => simp at hj hv; subst hj; subst hv; exact PR.I _ _
      | 2, hj, hv => simp at hj hv; subst hj; subst hv; exact PR.I _ _
    · rintro e W2 ⟨he, own2, hE⟩
      exact ⟨_, he, law_post (P := Tryz.prog) (tb := 4) (by kernel_rfl) (by kernel_rfl) hW2 hE rfl rfl (by kernel_rfl) (by kernel_rfl)⟩
  exact key
theorem treerelGlobal_said : Rows.TreerelGlobalSaid :=
  OpenClaim.holds_of_cond 8 Tryz.f8 rfl rfl rfl rfl rfl rfl rfl ⟨rfl, rfl, rfl, rfl, rfl⟩ rfl rfl rfl rfl rfl (by kernel_rfl) Tryz.func8 (by kernel_rfl)
    (of_decide_eq_true (by kernel_rfl)) (by unfold Func.isWrapper; first | (rw [if_pos (by decide +kernel)]; kernel_rfl) | (rw [if_neg (by decide +kernel)]; exact ⟨rfl, rfl⟩))
    (fun os started H enc _ F => by rw [OpenClaim.pre_eq_preRow]; exact treerelGlobal_lifted os started H enc F)
theorem treerelGlobal_plain (f : FuncId) (fn : Func) (hf : Tryz.pinned.checked.prog.funcNamed "corpora/corporalaw29.TreerelGlobal" = some f) (hfn : Tryz.pinned.checked.prog.funcs[f]? = some fn) :
    false = Tryz.pinned.checked.prog.looks [] ∧ ∀ (j : Nat) t, fn.params[j]? = some t → Tryz.pinned.checked.prog.wantsStandIn t = false := by
  obtain rfl : f = 8 := Option.some.inj ((show Tryz.prog.funcNamed "corpora/corporalaw29.TreerelGlobal" = some 8 by kernel_rfl).symm.trans hf) |>.symm
  obtain rfl : fn = Tryz.f8 := (Option.some.inj (Tryz.func8.symm.trans hfn)).symm
  refine ⟨by kernel_rfl, fun j t ht => ?_⟩
  rw [Tryz.params8] at ht
  have hm : t ∈ (#[22, 3, 3] : Array TypeId) := Array.mem_of_getElem? ht
  simp only [List.mem_toArray, List.mem_cons, List.not_mem_nil, or_false] at hm
  rcases hm with rfl | rfl | rfl
  · exact (show Tryz.prog.wantsStandIn 22 = false by kernel_rfl)
  · exact (show Tryz.prog.wantsStandIn 3 = false by kernel_rfl)
  · exact (show Tryz.prog.wantsStandIn 3 = false by kernel_rfl)
theorem treerelGlobal_card : Rows.TreerelGlobalCardSaid :=
  Claim7.holds_tied_plain_at .later [] _ _ _ _ treerelGlobal_said (fun _ h => by cases h) (by kernel_rfl) (fun _ h => by cases h) treerelGlobal_row_tie rfl ⟨rfl, rfl⟩ (by kernel_rfl) rfl treerelGlobal_plain (by kernel_rfl)
#print axioms treerelGlobal_card
end Go.Proofs.YtonhfccmeammbaaGreatDoor
