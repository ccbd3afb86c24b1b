/- What is handed in. -/
import Derived.Test.YtiapeheclfkdmaaFg
import Derived.Test.YtiapeheclfkdmaaFd
import Derived.Test.YtiapeheclfkdmaaWa
set_option linter.all false
set_option linter.unusedVariables false
set_option linter.unusedSimpArgs false
namespace Go.Proofs.Ytiapeheclfkdmaa
open Go.Ab Go.ChangeShapes Go.WideShapes Go.ChangeAt Go.RowKit
set_option linter.unusedVariables false
set_option linter.unusedSimpArgs false
set_option maxRecDepth 100000
set_option maxHeartbeats 20000000
theorem sh_span {ds : List D} (h : ShL Try.prog [3, 3] ds) : ∃ a : Span, ds = spc a := by
  obtain ⟨a, _, rfl, h1, b, _, rfl, h2, rfl⟩ := h
  obtain ⟨x, rfl, _⟩ := h1.inv_int (k := .i64) (by kernel_rfl)
  obtain ⟨y, rfl, _⟩ := h2.inv_int (k := .i64) (by kernel_rfl)
  exact ⟨(x, y), rfl⟩
theorem in_spans {H : Type} {enc : TypeId × Value → H} {W : World} {v : Value} {d : DataW H} {p : List MemPlace} {r : Reach} {b0 : Nat} (hval : Value.okWide Try.prog W r b0 22 v)
    (h : DataW.Trod enc Try.prog W 0 (fun _ => true) true 22 v d p) : ∃ l : List Span, l.length ≤ 9223372036854775807 ∧ DR W (fun _ => False) (spans l) v := by
  obtain ⟨ds, h1, h2⟩ := in_one (G := [22, 35, 3]) (by kernel_rfl) (by decide) (by kernel_rfl) hval h
  obtain ⟨l, rfl, hl, _⟩ := h1.inv_list (e := 35) spc (fun _ => True) (by kernel_rfl) fun x hx => by
    obtain ⟨a, rfl⟩ := sh_span (hx.inv_fields (ts := [3, 3]) (by kernel_rfl))
    exact ⟨a, rfl, trivial⟩
  exact ⟨l, hl, h2 _ rfl⟩
theorem in_span {H : Type} {enc : TypeId × Value → H} {W : World} {v : Value} {d : DataW H} {p : List MemPlace} {r : Reach} {b0 : Nat} (hval : Value.okWide Try.prog W r b0 35 v)
    (h : DataW.Trod enc Try.prog W 0 (fun _ => true) true 35 v d p) : ∃ a : Span, DR W (fun _ => False) (Dsp a) v := by
  obtain ⟨ds, h1, h2⟩ := in_struct (G := [35, 3]) (ts := [3, 3]) (by kernel_rfl) (by decide) (by kernel_rfl) hval h
  obtain ⟨a, rfl⟩ := sh_span h1
  exact ⟨a, h2⟩
end Go.Proofs.Ytiapeheclfkdmaa
