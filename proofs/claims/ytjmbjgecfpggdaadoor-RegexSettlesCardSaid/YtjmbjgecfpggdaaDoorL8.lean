/- A law holds for every input; no condition. -/
import Derived.Test.YtjmbjgecfpggdaaDoorRz
import Derived.Test.YtjmbjgecfpggdaaDoorM47
import Derived.SizedLaws
import Derived.Test.YtjmbjgecfpggdaaDoorRc
import Derived.Test.YtjmbjgecfpggdaaDoorCards
import Derived.Test.YtjmbjgecfpggdaaDoorTie
import Derived.Lay
import Derived.LaidMore
import Derived.ProofKit
import Derived.OpenShut
import Derived.ChangeMaps5
import Derived.Stop.Joined
import Derived.Deep.DeepHandedRow
set_option linter.all false
set_option linter.unusedVariables false
set_option linter.unusedSimpArgs false
namespace Go.Proofs.YtjmbjgecfpggdaaDoor
open Go.Ab Go.ChangeShapes Go.WideShapes Go.ChangeAt Go.RowKit
set_option linter.unusedVariables false
set_option linter.unusedSimpArgs false
set_option maxRecDepth 100000
set_option maxHeartbeats 20000000
theorem regexSettles_met (os : Os) : laidMetH Tryd.prog Rows.regexSettlesRow.laid ((World.laidAll Tryd.prog os Rows.regexSettlesRow.laid).forCall (fun _ _ => 0) ⟨#[], #[Value.string ⟨#[]⟩], []⟩).memory := by
  rw [MakeChecks.laidMetH_plain _ _ _ (by kernel_rfl)]
  exact laidMet_laidAll _ (by kernel_rfl) (by kernel_rfl)
theorem regexSettles_reads (os : Os) {H : Type} (enc : TypeId × Value → H) : DataW.whole enc Tryd.prog ((World.laidAll Tryd.prog os Rows.regexSettlesRow.laid).forCall (fun _ _ => 0) ⟨#[], #[Value.string ⟨#[]⟩], []⟩).memory Tryd.f8.params.toList Rows.regexSettlesSpec.vars false #[Value.string ⟨#[]⟩].toList 8 = some ([.lit (.string [])], [], []) := by kernel_rfl
theorem regexSettles_lifted (os : Os) (started : os.Started) (H : Type) (enc : TypeId × Value → H) (F : Stop.Interp) :
    ReturnsInHanded {} Tryd.checked os 8 .any ((OpenSpec.ofChange Rows.regexSettlesSpec).preRow enc Tryd.prog Tryd.f8 Rows.regexSettlesRow.domain false Rows.regexSettlesRow.laid) (((OpenSpec.ofChange Rows.regexSettlesSpec).at F).post enc Tryd.prog Tryd.f8 false true false false) := by
  have hx := regexSettles_reads os enc
  refine returnsInHanded_of_row (C := Tryd.checked) (s := OpenSpec.ofChange Rows.regexSettlesSpec) (by kernel_rfl) started (by kernel_rfl) Tryd.func8
    (witness_row_at (enc := enc) (C := Tryd.checked) false (World.laidAll Tryd.prog os Rows.regexSettlesRow.laid) #[Value.string ⟨#[]⟩] (World.laidAll_os _ _ _) (by kernel_rfl) (by kernel_rfl) (by kernel_rfl)
      (OpenSpec.preRow_of_cond 8 hx (by kernel_rfl) (fun k hk => by cases hk) (by kernel_rfl) (regexSettles_met os))) ?_
  intro W base args ds gs before hval0 hW h_1 h_2 h_3 hLaid h_4 h_5
  have hTab := tabs_in hLaid
  obtain ⟨τ, hO0, hO1, hD0, hD1⟩ := tab_of hTab
  have hval : ∀ (j : Nat) t v, Tryd.f8.params[j]? = some t → args[j]? = some v → Value.okWide Tryd.prog W .any base t v := hval0
  have hW2 : DataW.Whole enc Tryd.prog Tryd.f8.params.toList Rows.regexSettlesSpec.vars false W args.toList ds gs before := hW
  obtain ⟨p, q, hA0, hV, rfl, hfz, hnd⟩ := hW
  have hA : DataW.TrodAll enc Tryd.prog W 0 (fun _ => true) true Tryd.f8.params.toList args.toList ds p := hA0
  rw [Tryd.params8] at hA hval
  obtain ⟨v0, vs0, d0, ds0, p0, q0, e0, rfl, rfl, h0, r0⟩ := trodAll_cons hA
  obtain ⟨rfl, rfl, rfl⟩ := trodAll_nil r0
  obtain rfl : args = #[v0] := by cases args; simp_all
  obtain ⟨a0, rfl, rfl, rfl, w0⟩ := Go.ChangeMaps.open_string (by kernel_rfl) (hval 0 _ v0 rfl rfl) h0
  have hSz := h_3
  have key : Calls Tryd.prog 8 #[.string a0] W fun e W2 => ∃ v, e = .returned v ∧ Rows.regexSettlesSpec.post enc Tryd.prog Tryd.f8 false true false false W #[.string a0] v W2 := by
    refine (law_runT (P := Tryd.prog) (vs := [.string a0]) (settles_s τ a0 (by have hz := sized_string (j := 0) (bytes := a0.data.toList) hSz rfl rfl; simp only [reachBytes, Array.length_toList, ByteArray.size_data] at hz; omega)) W hO0 hO1 hD0 hD1 rfl ?_).mono ?_
    · intro β j pp v hj hv
      match j, hj, hv with
      | 0, hj, hv => simp at hj hv; subst hj; subst hv; exact PR.S _
    · rintro e W2 ⟨he, own2, hE⟩
      exact ⟨_, he, law_post (P := Tryd.prog) (tb := 4) (by kernel_rfl) (by kernel_rfl) hW2 hE rfl rfl (by kernel_rfl) (by kernel_rfl)⟩
  exact key
theorem regexSettles_said : Rows.RegexSettlesSaid :=
  OpenClaim.holds_of_cond 8 Tryd.f8 rfl rfl rfl rfl rfl rfl rfl ⟨rfl, rfl, rfl, rfl, rfl⟩ rfl rfl rfl rfl rfl (by kernel_rfl) Tryd.func8 (by kernel_rfl)
    (of_decide_eq_true (by kernel_rfl)) (by unfold Func.isWrapper; first | (rw [if_pos (by decide +kernel)]; kernel_rfl) | (rw [if_neg (by decide +kernel)]; exact ⟨rfl, rfl⟩))
    (fun os started H enc _ F => by rw [OpenClaim.pre_eq_preRow]; exact regexSettles_lifted os started H enc F)
theorem regexSettles_plain (f : FuncId) (fn : Func) (hf : Tryd.pinned.checked.prog.funcNamed "corpora/corporalaw19.RegexSettles" = some f) (hfn : Tryd.pinned.checked.prog.funcs[f]? = some fn) :
    false = Tryd.pinned.checked.prog.looks [] ∧ ∀ (j : Nat) t, fn.params[j]? = some t → Tryd.pinned.checked.prog.wantsStandIn t = false := by
  obtain rfl : f = 8 := Option.some.inj ((show Tryd.prog.funcNamed "corpora/corporalaw19.RegexSettles" = some 8 by kernel_rfl).symm.trans hf) |>.symm
  obtain rfl : fn = Tryd.f8 := (Option.some.inj (Tryd.func8.symm.trans hfn)).symm
  refine ⟨by kernel_rfl, fun j t ht => ?_⟩
  rw [Tryd.params8] at ht
  have hm : t ∈ (#[9] : Array TypeId) := Array.mem_of_getElem? ht
  simp only [List.mem_toArray, List.mem_cons, List.not_mem_nil, or_false] at hm
  rcases hm with rfl
  · exact (show Tryd.prog.wantsStandIn 9 = false by kernel_rfl)
theorem regexSettles_card : Rows.RegexSettlesCardSaid :=
  Claim7.holds_tied_plain_at .later [] _ _ _ _ regexSettles_said (fun _ h => by cases h) (by kernel_rfl) (fun _ h => by cases h) regexSettles_row_tie rfl ⟨rfl, rfl⟩ (by kernel_rfl) rfl regexSettles_plain (by kernel_rfl)
#print axioms regexSettles_card
end Go.Proofs.YtjmbjgecfpggdaaDoor
