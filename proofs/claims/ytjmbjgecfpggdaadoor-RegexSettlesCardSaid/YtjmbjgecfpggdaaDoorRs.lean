/- A part of the proof: Shg, G4, G5, G6, G7, G8, G9. -/
import Derived.Shelf.Small.Utf8
import Derived.Shelf.Small.Strs
import Derived.Shelf.Strings.Search1
import Derived.Shelf.Unicode.Decode
import Derived.Shelf.Unicode.DecodeAny
import Derived.Test.YtjmbjgecfpggdaaDoorProg
import Derived.Test.YtjmbjgecfpggdaaDoorRp
import Derived.Test.YtjmbjgecfpggdaaDoorRc
import Derived.Test.YtjmbjgecfpggdaaDoorRx
set_option linter.all false
set_option linter.unusedVariables false
set_option linter.unusedSimpArgs false
namespace Go.Proofs.YtjmbjgecfpggdaaDoor
open Go.Proofs
open Go.Shelf
def lays119_ren : Go.Shelf.Ren := ⟨fun | 119 => 90 | n => n, fun | 21 => 21 | 4 => 4 | n => n, fun | n => n⟩
theorem lays119 : Go.Proofs.Lays.n119 Tryd.prog lays119_ren := {
  mixed := by kernel_rfl
  f119 := Tryd.func90.trans (congrArg some (by kernel_rfl))
  t4 := Tryd.underlying4
  a4 := Tryd.isAgg4
  z4 := Tryd.sizeOf4
  v4 := Tryd.zeroValue4
  t21 := Tryd.underlying21
  a21 := Tryd.isAgg21
  z21 := Tryd.sizeOf21
  v21 := Tryd.zeroValue21 }
theorem utf8_ValidRune (r : Int) (w : World) :
    Calls Tryd.prog 90 #[.int .i32 r] w fun e w' => e = .returned (.bool (Lib.validRune r)) ∧ w' = w := Any.utf8_ValidRune lays119 r w
def lays137_ren : Go.Shelf.Ren := ⟨fun | 137 => 89 | 217 => 96 | 266 => 100 | n => n, fun | 9 => 9 | 5 => 5 | 3 => 3 | n => n, fun | n => n⟩
theorem lays137 : Go.Proofs.Lays.n137 Tryd.prog lays137_ren := {
  mixed := by kernel_rfl
  f137 := Tryd.func89.trans (congrArg some (by kernel_rfl))
  f217 := Tryd.func96.trans (congrArg some (by kernel_rfl))
  f266 := Tryd.func100.trans (congrArg some (by kernel_rfl))
  t3 := Tryd.underlying3
  a3 := Tryd.isAgg3
  z3 := Tryd.sizeOf3
  v3 := Tryd.zeroValue3
  t5 := Tryd.underlying5
  a5 := Tryd.isAgg5
  z5 := Tryd.sizeOf5
  v5 := Tryd.zeroValue5
  t9 := Tryd.underlying9
  a9 := Tryd.isAgg9
  z9 := Tryd.sizeOf9
  v9 := Tryd.zeroValue9 }
open Go.RowKit in
theorem strings_IndexByte (s : ByteArray) (c : Int) (w : World) :
    Calls Tryd.prog 89 #[.string s, .int .u8 c] w fun e w' => e = .returned (.int .i64 (Lib.indexByte s.data.toList c.toNat.toUInt8)) ∧ w' = w := Any.strings_IndexByte lays137 s c w
def lays197_ren : Go.Shelf.Ren := ⟨fun | 197 => 55 | 260 => 66 | n => n, fun | 9 => 9 | 21 => 21 | 3 => 3 | 4 => 4 | 5 => 5 | 105 => 89 | 119 => 116 | 0 => 0 | 46 => 117 | 139 => 120 | 138 => 119 | n => n, fun | 3 => 0 | 4 => 1 | n => n⟩
theorem lays197 : Go.Proofs.Lays.n197 Tryd.prog lays197_ren := {
  mixed := by kernel_rfl
  f197 := Tryd.func55.trans (congrArg some (by kernel_rfl))
  f260 := Tryd.func66.trans (congrArg some (by kernel_rfl))
  t0 := Tryd.underlying0
  a0 := Tryd.isAgg0
  z0 := Tryd.sizeOf0
  v0 := Tryd.zeroValue0
  t3 := Tryd.underlying3
  a3 := Tryd.isAgg3
  z3 := Tryd.sizeOf3
  v3 := Tryd.zeroValue3
  t4 := Tryd.underlying4
  a4 := Tryd.isAgg4
  z4 := Tryd.sizeOf4
  v4 := Tryd.zeroValue4
  t5 := Tryd.underlying5
  a5 := Tryd.isAgg5
  z5 := Tryd.sizeOf5
  v5 := Tryd.zeroValue5
  t9 := Tryd.underlying9
  a9 := Tryd.isAgg9
  z9 := Tryd.sizeOf9
  v9 := Tryd.zeroValue9
  t21 := Tryd.underlying21
  a21 := Tryd.isAgg21
  z21 := Tryd.sizeOf21
  v21 := Tryd.zeroValue21
  t46 := Tryd.underlying117
  a46 := Tryd.isAgg117
  z46 := Tryd.sizeOf117
  v46 := Tryd.zeroValue117
  t105 := Tryd.underlying89
  a105 := Tryd.isAgg89
  z105 := Tryd.sizeOf89
  v105 := Tryd.zeroValue89
  t119 := Tryd.underlying116
  a119 := Tryd.isAgg116
  z119 := Tryd.sizeOf116
  t138 := Tryd.underlying119
  a138 := Tryd.isAgg119
  z138 := Tryd.sizeOf119
  v138 := Tryd.zeroValue119
  t139 := Tryd.underlying120
  a139 := Tryd.isAgg120
  z139 := Tryd.sizeOf120
  v139 := Tryd.zeroValue120
  g3 := by kernel_rfl
  g4 := by kernel_rfl }
open Go.RowKit Go.Lib in
def lays260_ren : Go.Shelf.Ren := ⟨fun | 260 => 66 | n => n, fun | 9 => 9 | 21 => 21 | 3 => 3 | 4 => 4 | 5 => 5 | 119 => 116 | 0 => 0 | 46 => 117 | 139 => 120 | 138 => 119 | n => n, fun | 3 => 0 | 4 => 1 | n => n⟩
theorem lays260 : Go.Proofs.Lays.n260 Tryd.prog lays260_ren := {
  mixed := by kernel_rfl
  f260 := Tryd.func66.trans (congrArg some (by kernel_rfl))
  t0 := Tryd.underlying0
  a0 := Tryd.isAgg0
  z0 := Tryd.sizeOf0
  v0 := Tryd.zeroValue0
  t3 := Tryd.underlying3
  a3 := Tryd.isAgg3
  z3 := Tryd.sizeOf3
  v3 := Tryd.zeroValue3
  t4 := Tryd.underlying4
  a4 := Tryd.isAgg4
  z4 := Tryd.sizeOf4
  v4 := Tryd.zeroValue4
  t5 := Tryd.underlying5
  a5 := Tryd.isAgg5
  z5 := Tryd.sizeOf5
  v5 := Tryd.zeroValue5
  t9 := Tryd.underlying9
  a9 := Tryd.isAgg9
  z9 := Tryd.sizeOf9
  v9 := Tryd.zeroValue9
  t21 := Tryd.underlying21
  a21 := Tryd.isAgg21
  z21 := Tryd.sizeOf21
  v21 := Tryd.zeroValue21
  t46 := Tryd.underlying117
  a46 := Tryd.isAgg117
  z46 := Tryd.sizeOf117
  v46 := Tryd.zeroValue117
  t119 := Tryd.underlying116
  a119 := Tryd.isAgg116
  z119 := Tryd.sizeOf116
  t138 := Tryd.underlying119
  a138 := Tryd.isAgg119
  z138 := Tryd.sizeOf119
  v138 := Tryd.zeroValue119
  t139 := Tryd.underlying120
  a139 := Tryd.isAgg120
  z139 := Tryd.sizeOf120
  v139 := Tryd.zeroValue120
  g3 := by kernel_rfl
  g4 := by kernel_rfl }
open Go.RowKit Go.Lib in
open Go.RowKit Go.Lib in
theorem utf8_DecodeRuneInString (s : ByteArray) (w : World) (hT : Lib.Utf8Tabs 0 1 w) :
    Calls Tryd.prog 55 #[.string s] w fun e w' => e = .returned (.tuple #[.int .i32 (Lib.decodeGo s).1, .int .i64 (Lib.decodeGo s).2]) ∧ Below w.heap.size w w' := Any.utf8_DecodeRuneInString lays197 s w hT
end Go.Proofs.YtjmbjgecfpggdaaDoor
namespace Go.Proofs.YtjmbjgecfpggdaaDoor
open Go.Ab Go.Rx
set_option maxHeartbeats 20000000
set_option maxRecDepth 100000
set_option linter.unusedVariables false
set_option linter.unusedSimpArgs false
attribute [local irreducible] Run Ops Op1 Does Val Tr PureF Eff1 NF Rel EffV EffM
/-- what the library's tables of encodings hold -/
structure Tab where
  o0 : Obj
  o1 : Obj
  ok : ∀ w : World, w.heap[0]? = some o0 → w.heap[1]? = some o1 → Lib.Utf8Tabs 0 1 w
variable {τ : Tab}
abbrev tabs (τ : Tab) (e : Nat) : List (Nm × Blk) := [((e, 700), .glob 0 τ.o0), ((e, 701), .glob 1 τ.o1)]
structure HT (τ : Tab) (e : Nat) (H : Hf) : Prop where
  a : H e 700 = some (.glob 0 τ.o0)
  b : H e 701 = some (.glob 1 τ.o1)
theorem HT.of {e : Nat} {H : Hf} {bs : List (Nm × Blk)} (h : ∀ q ∈ bs ++ tabs τ e, H q.1.1 q.1.2 = some q.2) : HT τ e H :=
  ⟨h ((e, 700), .glob 0 τ.o0) (by simp), h ((e, 701), .glob 1 τ.o1) (by simp)⟩
theorem HT.upd {e d X : Nat} {H : Hf} {b : Blk} (h : HT τ e H) (h0 : X ≠ 700) (h1 : X ≠ 701) : HT τ e (upd H (d, X) b) := by
  refine ⟨?_, ?_⟩
  · have := upd_other H (d, X) (e, 700) b (fun q => h0 (Prod.mk.inj q).2.symm)
    exact this.trans h.a
  · have := upd_other H (d, X) (e, 701) b (fun q => h1 (Prod.mk.inj q).2.symm)
    exact this.trans h.b
theorem bkT {e n : Nat} {tm : List (Nat × PV)} {hp : Hp} {up : Hf} (h : HT τ e up) : BkE ⟨n, tm, hp, up⟩ (tabs τ (e + 1)) :=
  bk_cons (m := (e + 1, 700)) h.a (bk_cons (m := (e + 1, 701)) h.b bk_nil)
theorem HT.push {e : Nat} {H : Hf} (hp : Hp) (h : HT τ e H) : HT τ (e + 1) (Ab.push hp H) := ⟨h.a, h.b⟩
/-- the first code point of a string -/
theorem decode_c (τ : Tab) (s : ByteArray) (e : Nat) : Eff1 Tryd.prog 55 [S s] (tabs τ e) [] (.tup [I .i32 ((Lib.decodeGo s).1 : Nat), I .i64 ((Lib.decodeGo s).2 : Nat)]) := by
  refine eff_calls ⟨_, Tryd.func55, by kernel_rfl, by kernel_rfl⟩ fun H hH β own w vals hHR hA => ?_
  obtain ⟨hl, ha⟩ := hA
  obtain ⟨v, rfl⟩ : ∃ v, vals = [v] := by
    match vals, hl with
    | [v], _ => exact ⟨v, rfl⟩
  have hv := PR.lit (ha 0 _ v rfl rfl)
  subst hv
  have h0 := hHR.blk (e, 700) (.glob 0 τ.o0) (by
    have := hH ((e, 700), .glob 0 τ.o0) (by simp)
    cases e with
    | zero => exact this
    | succ e => simp only [lookF]; rw [this]; rfl)
  have h1 := hHR.blk (e, 701) (.glob 1 τ.o1) (by
    have := hH ((e, 701), .glob 1 τ.o1) (by simp)
    cases e with
    | zero => exact this
    | succ e => simp only [lookF]; rw [this]; rfl)
  have hT : Lib.Utf8Tabs 0 1 w := by
    refine τ.ok w ?_ ?_
    · generalize β (e, 700) = x at h0
      cases h0 with | glob _ _ ho hg hd => exact hg
    · generalize β (e, 701) = x at h1
      cases h1 with | glob _ _ ho hg hd => exact hg
  refine ⟨_, utf8_DecodeRuneInString s w hT, fun w' own' => ?_⟩
  refine .tup _ _ rfl fun j p v hp hv => ?_
  match j, hp, hv with
  | 0, hp, hv => simp at hp hv; subst hp; subst hv; exact PR.I _ _
  | 1, hp, hv => simp at hp hv; subst hp; subst hv; exact PR.I _ _
/-- the reader of expressions: the text, the place, the error -/
abbrev pbx (s : ByteArray) (at_ : Int) (a e : Int) : Blk := .box [S s, I .i64 at_, I .i64 a, I .i64 e]
section
variable {X : Nat} (hX0 : X ≠ 700) (hX1 : X ≠ 701)
theorem next_s (τ : Tab) (s : ByteArray) (i : Nat) (hi : i ≤ s.size) (a e : Int) (e0 : Nat) : Eff1 Tryd.prog 43 [.ptr (e0, X) 0] (((e0, X), pbx s i a e) :: tabs τ (e0 + 1)) [] (I .i32 (nx (rst s i))) := by
  refine eff_of fun H hH => ?_
  have hX := hH ((e0, X), pbx s i a e) (by simp)
  have hT : HT τ (e0 + 1) H := HT.of (bs := [((e0, X), pbx s i a e)]) hH
  refine spec_of Tryd.func43 (by kernel_rfl) rfl (by simp) ?_
  dsimp only [Tryd.f43]
  by_cases hlt : i < s.size
  · have hd := decode_c τ (s.extract i s.size) (e0 + 1 + 1)
    rw [decGo s i hlt] at hd
    rw [rst_nx hlt]
    repeat' (first | (refine k_op1 ?_; (refine o_sv rfl (by decide) ?_)) | (refine k_ops ?_; (first | refine o_go (by first | exact .inl rfl | exact .inr ⟨_, _, _, rfl, rfl, rfl⟩) ?_ | refine o_nil ?_)) | (refine k_run ?_; (first | refine r_seq ?_ | refine r_region ?_ | refine r_skip ?_ | refine r_tr ?_ | refine r_if rfl (fun _ => ?_) (fun _ => ?_))) | (refine k_tr ?_; (first | (refine kt_end ?_; refine t_end mix (by kernel_rfl) ?_) | refine t_sv rfl (by first | exact rfl | exact ⟨_, rfl, rfl, rfl⟩) (by decide) ?_ | (refine kt_load ?_; (refine t_val (v_load (b := pbx s i a e) rfl rfl rfl rfl) (by first | exact rfl | exact ⟨_, rfl, rfl, rfl⟩) rfl (bkN hX) (by decide) ?_)) | (refine kt_field ?_; (refine t_val (v_field rfl rfl) (by first | exact rfl | exact ⟨_, rfl, rfl, rfl⟩) rfl rfl (by decide) ?_)) | (refine kt_slice ?_; (refine t_val (v_sslicef rfl (by omega) (by omega)) (by first | exact rfl | exact ⟨_, rfl, rfl, rfl⟩) rfl rfl (by decide) ?_)) | (refine kt_blt ?_; (refine t_val (v_lens rfl) (by first | exact rfl | exact ⟨_, rfl, rfl, rfl⟩) rfl rfl (by decide) ?_)) | (refine kt_call ?_; (refine t_effd hd (by first | exact rfl | exact ⟨_, rfl, rfl, rfl⟩) rfl (bkT hT) (by decide) ?_)))))
    all_goals try (exfalso; omega)
    exact r_ret Tryd.func43 _ (res_one rfl rfl) ⟨rfl, rfl⟩
  · rw [rst_ge (by omega)]
    obtain rfl : i = s.size := by omega
    repeat' (first | (refine k_op1 ?_; (refine o_sv rfl (by decide) ?_)) | (refine k_ops ?_; (first | refine o_go (by first | exact .inl rfl | exact .inr ⟨_, _, _, rfl, rfl, rfl⟩) ?_ | refine o_nil ?_)) | (refine k_run ?_; (first | refine r_seq ?_ | refine r_region ?_ | refine r_skip ?_ | refine r_tr ?_ | refine r_if rfl (fun _ => ?_) (fun _ => ?_))) | (refine k_tr ?_; (first | (refine kt_end ?_; refine t_end mix (by kernel_rfl) ?_) | refine t_sv rfl (by first | exact rfl | exact ⟨_, rfl, rfl, rfl⟩) (by decide) ?_ | (refine kt_load ?_; (refine t_val (v_load (b := pbx s s.size a e) rfl rfl rfl rfl) (by first | exact rfl | exact ⟨_, rfl, rfl, rfl⟩) rfl (bkN hX) (by decide) ?_)) | (refine kt_field ?_; (refine t_val (v_field rfl rfl) (by first | exact rfl | exact ⟨_, rfl, rfl, rfl⟩) rfl rfl (by decide) ?_)) | (refine kt_blt ?_; (refine t_val (v_lens rfl) (by first | exact rfl | exact ⟨_, rfl, rfl, rfl⟩) rfl rfl (by decide) ?_)))))
    all_goals try (exfalso; omega)
    exact r_ret Tryd.func43 _ (res_one rfl rfl) ⟨rfl, rfl⟩
theorem skip_s (τ : Tab) (s : ByteArray) (i : Nat) (hi : i < s.size) (hs : s.size ≤ 1000000) (a e : Int) (e0 : Nat) : Eff1 Tryd.prog 87 [.ptr (e0, X) 0] (((e0, X), pbx s i a e) :: tabs τ (e0 + 1)) [((e0, X), pbx s ((i + (Utf8.decode s i).2 : Nat) : Int) a e)] (.tup []) := by
  refine eff_of fun H hH => ?_
  have hX := hH ((e0, X), pbx s i a e) (by simp)
  have hT : HT τ (e0 + 1) H := HT.of (bs := [((e0, X), pbx s i a e)]) hH
  have hw := dec_w s i hi
  refine spec_of Tryd.func87 (by kernel_rfl) rfl (by simp) ?_
  dsimp only [Tryd.f87]
  have hd := decode_c τ (s.extract i s.size) (e0 + 1 + 1)
  rw [decGo s i hi] at hd
  repeat' (first | (refine k_op1 ?_; (first | refine o_sv rfl (by decide) ?_ | (refine k_load ?_; (refine o_val (v_load (b := pbx s i a e) rfl rfl rfl rfl) rfl (bkN hX) (by decide) ?_)) | (refine k_field ?_; (refine o_val (v_field rfl rfl) rfl rfl (by decide) ?_)) | (refine k_bin ?_; (refine o_val (v_add (wi64 (by omega) (by omega))) rfl rfl (by decide) ?_)) | (refine k_store ?_; (refine o_storeu (raw := pbx s i a e) (raw' := pbx s (i + (Utf8.decode s i).2) a e) rfl hX rfl rfl rfl rfl rfl rfl ?_)))) | (refine k_ops ?_; (first | refine o_go (by first | exact .inl rfl | exact .inr ⟨_, _, _, rfl, rfl, rfl⟩) ?_ | refine o_nil ?_)) | (refine k_run ?_; (first | refine r_seq ?_ | refine r_region ?_ | refine r_tr ?_)) | (refine k_tr ?_; (first | (refine kt_end ?_; refine t_end mix (by kernel_rfl) ?_) | refine t_sv rfl (by first | exact rfl | exact ⟨_, rfl, rfl, rfl⟩) (by decide) ?_ | (refine kt_load ?_; (refine t_val (v_load (b := pbx s i a e) rfl rfl rfl rfl) (by first | exact rfl | exact ⟨_, rfl, rfl, rfl⟩) rfl (bkN hX) (by decide) ?_)) | (refine kt_field ?_; (refine t_val (v_field rfl rfl) (by first | exact rfl | exact ⟨_, rfl, rfl, rfl⟩) rfl rfl (by decide) ?_)) | (refine kt_slice ?_; (refine t_val (v_sslicef rfl (by omega) (by omega)) (by first | exact rfl | exact ⟨_, rfl, rfl, rfl⟩) rfl rfl (by decide) ?_)) | (refine kt_call ?_; (refine t_effd hd (by first | exact rfl | exact ⟨_, rfl, rfl, rfl⟩) rfl (bkT hT) (by decide) ?_)))))
  all_goals try (exfalso; omega)
  rw [← Int.natCast_add]
  exact r_end Tryd.func87 _ (res_none rfl) ⟨rfl, rfl⟩
theorem fail_s (s : ByteArray) (p : PV) (at_ n : Int) (e0 : Nat) (hn : n ≠ 0) : Eff1 Tryd.prog 32 [.ptr (e0, X) 0, I .i64 at_, I .i64 n] [((e0, X), .box [S s, p, I .i64 0, I .i64 0])] [((e0, X), .box [S s, p, I .i64 at_, I .i64 n])] (B false) := by
  refine eff_of fun H hH => ?_
  have hX := hH ((e0, X), .box [S s, p, I .i64 0, I .i64 0]) (by simp)
  refine spec_of Tryd.func32 (by kernel_rfl) rfl (by simp) ?_
  dsimp only [Tryd.f32]
  repeat' (first | (refine k_op1 ?_; (first | refine o_sv rfl (by decide) ?_ | (refine k_load ?_; (refine o_val (v_load (b := .box [S s, p, I .i64 0, I .i64 0]) rfl rfl rfl rfl) rfl (bkN hX) (by decide) ?_)) | (refine k_field ?_; (refine o_val (v_field rfl rfl) rfl rfl (by decide) ?_)) | (refine k_store ?_; (first | refine o_storeu (raw := .box [S s, p, I .i64 at_, I .i64 0]) (raw' := .box [S s, p, I .i64 at_, I .i64 n]) rfl (upd_get H (e0, X) _) rfl rfl rfl rfl rfl rfl ?_ | refine o_storeu (raw := .box [S s, p, I .i64 0, I .i64 0]) (raw' := .box [S s, p, I .i64 at_, I .i64 0]) rfl hX rfl rfl rfl rfl rfl rfl ?_)))) | (refine k_ops ?_; (first | refine o_go (by first | exact .inl rfl | exact .inr ⟨_, _, _, rfl, rfl, rfl⟩) ?_ | refine o_nil ?_)) | (refine k_run ?_; (first | refine r_seq ?_ | refine r_region ?_ | refine r_true rfl ?_)))
  all_goals try (exfalso; omega)
  rw [upd_upd']
  exact r_ret Tryd.func32 _ (res_one rfl rfl) ⟨rfl, rfl⟩
end
end Go.Proofs.YtjmbjgecfpggdaaDoor
namespace Go.Proofs.YtjmbjgecfpggdaaDoor
open Go.Ab Go.Rx
set_option maxHeartbeats 20000000
set_option maxRecDepth 100000
set_option linter.unusedVariables false
set_option linter.unusedSimpArgs false
attribute [local irreducible] Run Ops Op1 Does Val Tr PureF Eff1 NF Rel EffV EffM
theorem pure_calls {g : FuncId} {ps : List PV} {p : PV} (hp : Plain Tryd.prog g) (h : ∀ β own w vals, ArgsR β w own ps vals → ∃ v, Calls Tryd.prog g vals.toArray w (fun e w' => e = .returned v ∧ w' = w) ∧ ∀ w' own', PR β w' own' p v) : PureF Tryd.prog g ps p := by
  have := eff_calls (bs := []) hp fun H hH β own w vals hHR hA => by
    obtain ⟨v, hc, hv⟩ := h β own w vals hA
    exact ⟨v, hc.mono fun e w' ⟨h1, h2⟩ => ⟨h1, by subst h2; exact RowKit.Below.refl _ _⟩, hv⟩
  unfold PureF
  intro H
  unfold Eff1 at this
  have h2 := this H (by simp)
  exact h2
theorem index_c (s : ByteArray) (c : Int) : PureF Tryd.prog 89 [S s, I .u8 c] (I .i64 (Lib.indexByte s.data.toList c.toNat.toUInt8)) := by
  refine pure_calls ⟨_, Tryd.func89, by kernel_rfl, by kernel_rfl⟩ fun β own w vals hA => ?_
  obtain ⟨hl, ha⟩ := hA
  obtain ⟨v, u, rfl⟩ : ∃ v u, vals = [v, u] := by
    match vals, hl with
    | [v, u], _ => exact ⟨v, u, rfl⟩
  have hv := PR.lit (ha 0 _ v rfl rfl)
  have hu := PR.lit (ha 1 _ u rfl rfl)
  subst hv hu
  exact ⟨_, strings_IndexByte s c w, fun w' own' => PR.I _ _⟩
theorem validRune_c (r : Int) : PureF Tryd.prog 90 [I .i32 r] (B (Lib.validRune r)) := by
  refine pure_calls ⟨_, Tryd.func90, by kernel_rfl, by kernel_rfl⟩ fun β own w vals hA => ?_
  obtain ⟨hl, ha⟩ := hA
  obtain ⟨v, rfl⟩ : ∃ v, vals = [v] := by
    match vals, hl with
    | [v], _ => exact ⟨v, rfl⟩
  have hv := PR.lit (ha 0 _ v rfl rfl)
  subst hv
  exact ⟨_, utf8_ValidRune r w, fun w' own' => PR.B _⟩
/-- signs as a string -/
def spB (l : List Int) : ByteArray := ⟨(l.map fun c => UInt8.ofNat c.toNat).toArray⟩
theorem ix_none : ∀ (l : List UInt8) (c : UInt8), (∀ b ∈ l, b ≠ c) → Lib.indexByte l c = -1
  | [], c, _ => rfl
  | b :: l, c, h => by
    have hb : (b == c) = false := by simpa using h b (by simp)
    rw [Lib.indexByte, hb, ix_none l c fun x hx => h x (by simp [hx])]; rfl
structure Sp (sp : List Int) : Prop where
  size : 5 ≤ (spB sp).size ∧ (spB sp).size ≤ 12
  asc : ∀ b ∈ (spB sp).data.toList, b.toNat < 128
  idx : ∀ c : Fin 128, decide (0 ≤ Lib.indexByte (spB sp).data.toList (UInt8.ofNat c.val)) = sp.contains (c.val : Int)
  rng : ∀ c ∈ sp, 0 ≤ c ∧ c < 128
theorem sp_A : Sp spA := ⟨by decide, by decide, by decide +kernel, by decide⟩
theorem sp_C : Sp spC := ⟨by decide, by decide, by decide +kernel, by decide⟩
def ixR (sp : List Int) (c : Int) : Int := if 0 ≤ c ∧ c < 128 then Lib.indexByte (spB sp).data.toList c.toNat.toUInt8 else -1
theorem ixR_c {sp : List Int} (h : Sp sp) (c : Int) : decide (0 ≤ ixR sp c) = sp.contains c := by
  rw [ixR]
  by_cases hc : 0 ≤ c ∧ c < 128
  · rw [if_pos hc]
    have := h.idx ⟨c.toNat, by omega⟩
    rw [show (((⟨c.toNat, by omega⟩ : Fin 128).val : Nat) : Int) = c by simp; omega] at this
    exact this
  · rw [if_neg hc]
    symm
    rw [show decide ((0 : Int) ≤ -1) = false by decide, Bool.eq_false_iff]
    intro h2
    exact hc (h.rng c (by simpa using h2))
theorem spB_get {sp : List Int} (h : Sp sp) {i : Nat} (hi : i < (spB sp).size) : ∃ b, (spB sp)[i]? = some b ∧ b.toNat < 128 := by
  refine ⟨(spB sp)[i], getElem?_pos _ i hi, h.asc _ ?_⟩
  exact Array.getElem_mem_toList (by exact hi)
theorem enc_last {c : Int} (h : 128 ≤ c) (hv : Utf8.valid c = true) : ∃ b, 2 ≤ (Utf8.encode c).size ∧ (Utf8.encode c).size ≤ 4 ∧ (Utf8.encode c)[(Utf8.encode c).size - 1]? = some b ∧ 128 ≤ b.toNat := by
  have h2 : c.toNat ≤ 1114111 := by
    have := valid_hi (c := c.toNat) (by rw [show ((c.toNat : Nat) : Int) = c by omega]; exact hv)
    exact this
  obtain ⟨n, rfl⟩ : ∃ n : Nat, c = n := ⟨c.toNat, by omega⟩
  unfold Utf8.encode
  simp only [hv, if_true, Int.toNat_natCast]
  have hm : ∀ q : Nat, (UInt8.ofNat (128 + q % 64)).toNat = 128 + q % 64 := fun q => by simp; omega
  have h3 : 128 ≤ n := by omega
  rw [if_neg (show ¬ n < 128 by omega)]
  split
  · exact ⟨UInt8.ofNat (128 + n % 64), (show 2 ≤ 2 by decide), (show 2 ≤ 4 by decide), rfl, by rw [hm]; omega⟩
  split
  · exact ⟨UInt8.ofNat (128 + n % 64), (show 2 ≤ 3 by decide), (show 3 ≤ 4 by decide), rfl, by rw [hm]; omega⟩
  · exact ⟨UInt8.ofNat (128 + n % 64), (show 2 ≤ 4 by decide), (show 4 ≤ 4 by decide), rfl, by rw [hm]; omega⟩
theorem vr_valid (c : Int) : Lib.validRune c = Utf8.valid c := by
  unfold Lib.validRune Utf8.valid
  rw [Bool.eq_iff_iff, decide_eq_true_eq, Bool.or_eq_true, Bool.and_eq_true, Bool.and_eq_true, decide_eq_true_eq, decide_eq_true_eq, decide_eq_true_eq, decide_eq_true_eq]
  omega
theorem idxRune_s {sp : List Int} (hsp : Sp sp) (c : Int) (hc0 : -1 ≤ c) (hc1 : c ≤ 1114111) : PureF Tryd.prog 80 [S (spB sp), I .i32 c] (I .i64 (ixR sp c)) := by
  refine pure_of fun H => ?_
  refine spec_of Tryd.func80 (by kernel_rfl) rfl (by simp) ?_
  dsimp only [Tryd.f80]
  have hsz := hsp.size
  by_cases h1 : 0 ≤ c ∧ c < 128
  · have hi := index_c (spB sp) c
    rw [ixR, if_pos h1]
    have hw8 : IntKind.u8.wrap c = c := by simp [IntKind.wrap, IntKind.bits, IntKind.signed]; omega
    repeat' (first | (refine k_op1 ?_; (first | refine o_sv rfl (by decide) ?_ | (refine k_call ?_; (refine o_fn hi rfl (by decide) ?_)) | (refine k_conv ?_; (refine o_val (v_conv rfl rfl hw8) rfl rfl (by decide) ?_)))) | (refine k_ops ?_; (first | refine o_go (by first | exact .inl rfl | exact .inr ⟨_, _, _, rfl, rfl, rfl⟩) ?_ | refine o_nil ?_ | refine o_no rfl rfl (by decide) ?_ | refine o_casep rfl rfl (fun _ => ?_) (fun _ => ?_))) | (refine k_run ?_; (first | refine r_seq ?_ | refine r_region ?_ | refine r_false rfl ?_ | refine r_block ?_ | refine r_if rfl (fun _ => ?_) (fun _ => ?_))))
    all_goals try (exfalso; omega)
    exact r_ret Tryd.func80 _ (res_one rfl rfl) ⟨rfl, rfl⟩
  rw [ixR, if_neg h1]
  by_cases h2 : c = 65533
  · subst h2
    repeat' (first | (refine k_op1 ?_; (first | refine o_sv rfl (by decide) ?_ | refine o_range rfl rfl rfl (by decide) ?_)) | (refine k_ops ?_; (first | refine o_go (by first | exact .inl rfl | exact .inr ⟨_, _, _, rfl, rfl, rfl⟩) ?_ | refine o_nil ?_)) | (refine k_run ?_; (first | refine r_seq ?_ | refine r_region ?_ | refine r_true rfl ?_ | refine r_false rfl ?_ | refine r_block ?_)))
    all_goals try (exfalso; omega)
    refine r_loop ?_
    refine r_less (r_inv (fun q : Nat => ⟨187, [(175, .ptr (0, 175) 0)], [(175, .siter (spB sp) q)], H⟩) (fun q => True) (fun q => (spB sp).size - q) ?_ 0 trivial) rfl rfl
    intro q _ ih
    by_cases hlt : q < (spB sp).size
    · have hda := decode_ascii (spB sp) q hlt (hsp.asc _ (Array.getElem_mem_toList (by exact hlt)))
      have hb := hsp.asc _ (Array.getElem_mem_toList (xs := (spB sp).data) (by exact hlt))
      have hne : ((Utf8.decode (spB sp) q).1 : Int) ≠ 65533 := by
        rw [hda]
        have : ((spB sp)[q]'hlt).toNat < 128 := hb
        simp only; omega
      have hw := dec_w (spB sp) q hlt
      repeat' (first | (refine k_op1 ?_; (first | refine o_sv rfl (by decide) ?_ | refine o_next_more hlt rfl rfl (by decide) ?_)) | (refine k_ops ?_; (first | refine o_go (by first | exact .inl rfl | exact .inr ⟨_, _, _, rfl, rfl, rfl⟩) ?_ | refine o_nil ?_)) | (refine k_run ?_; (first | refine r_seq ?_ | refine r_region ?_ | refine r_true rfl ?_ | refine r_skip ?_ | refine r_block ?_ | refine r_inBlock ?_ | refine r_if rfl (fun _ => ?_) (fun _ => ?_))))
      all_goals try (exfalso; omega)
      exact r_less (ih _ trivial (by omega)) rfl rfl
    · repeat' (first | (refine k_op1 ?_; (first | refine o_sv rfl (by decide) ?_ | refine o_next_over hlt rfl rfl (by decide) ?_)) | (refine k_ops ?_; (first | refine o_go (by first | exact .inl rfl | exact .inr ⟨_, _, _, rfl, rfl, rfl⟩) ?_ | refine o_nil ?_)) | (refine k_run ?_; (first | refine r_seq ?_ | refine r_region ?_ | refine r_false rfl ?_ | refine r_exit rfl ?_)))
      all_goals try (exfalso; omega)
      exact r_ret Tryd.func80 _ (res_one rfl rfl) ⟨rfl, rfl⟩
  have hv := validRune_c c
  rw [vr_valid] at hv
  cases hvv : Utf8.valid c with
  | false =>
    rw [hvv] at hv
    repeat' (first | (refine k_op1 ?_; (first | refine o_sv rfl (by decide) ?_ | (refine k_call ?_; (refine o_fn hv rfl (by decide) ?_)))) | (refine k_ops ?_; (first | refine o_go (by first | exact .inl rfl | exact .inr ⟨_, _, _, rfl, rfl, rfl⟩) ?_ | refine o_nil ?_ | refine o_no rfl rfl (by decide) ?_ | refine o_casep rfl rfl (fun _ => ?_) (fun _ => ?_))) | (refine k_run ?_; (first | refine r_seq ?_ | refine r_region ?_ | refine r_true rfl ?_ | refine r_false rfl ?_ | refine r_block ?_ | refine r_if rfl (fun _ => ?_) (fun _ => ?_))))
    all_goals try (exfalso; omega)
    all_goals exact r_ret Tryd.func80 _ (res_one rfl rfl) ⟨rfl, rfl⟩
  | true =>
    rw [hvv] at hv
    have hc : 128 ≤ c := by
      false_or_by_contra
      have : c = -1 := by omega
      subst this; revert hvv; decide
    obtain ⟨b, e1, e2, e3, e4⟩ := enc_last hc hvv
    have e3' : (Utf8.encode c)[(((Utf8.encode c).size : Int) - 1).toNat]? = some b := by rw [← e3]; congr 1; omega
    obtain ⟨b0, f1, f2⟩ := spB_get hsp (i := (Utf8.encode c).size - 1) (by omega)
    have f1' : (spB sp)[(((Utf8.encode c).size : Int) - 1).toNat]? = some b0 := by rw [← f1]; congr 1; omega
    have hi := index_c ((spB sp).extract (((Utf8.encode c).size : Int) - 1 + 1).toNat (spB sp).size) b.toNat
    rw [ix_none _ _ (fun x hx => by
      have hm : x ∈ (spB sp).data.toList := by
        rw [ByteArray.data_extract, Array.toList_extract] at hx
        exact List.mem_of_mem_drop (List.mem_of_mem_take hx)
      have := hsp.asc x hm
      intro he
      subst he
      simp at e4 this; omega)] at hi
    repeat' (first | (refine k_op1 ?_; (first | refine o_sv rfl (by decide) ?_ | (refine k_bin ?_; (refine o_val (v_sub (wi64 (by omega) (by omega))) rfl rfl (by decide) ?_)) | (refine k_blt ?_; (refine o_val (v_lens rfl) rfl rfl (by decide) ?_)) | (refine k_call ?_; (refine o_fn hv rfl (by decide) ?_)) | (refine k_conv ?_; (refine o_val (v_strune rfl rfl) rfl rfl (by decide) ?_)))) | (refine k_ops ?_; (first | refine o_go (by first | exact .inl rfl | exact .inr ⟨_, _, _, rfl, rfl, rfl⟩) ?_ | refine o_nil ?_ | refine o_no rfl rfl (by decide) ?_ | refine o_casep rfl rfl (fun _ => ?_) (fun _ => ?_))) | (refine k_run ?_; (first | refine r_seq ?_ | refine r_region ?_ | refine r_false rfl ?_ | refine r_block ?_ | refine r_scope ?_ | refine r_if rfl (fun _ => ?_) (fun _ => ?_))))
    all_goals try (exfalso; omega)
    refine r_loop ?_
    refine r_inLoop ?_
    repeat' (first | (refine k_op1 ?_; (first | refine o_sv rfl (by decide) ?_ | (refine k_blt ?_; (refine o_val (v_lens rfl) rfl rfl (by decide) ?_)))) | (refine k_ops ?_; (first | refine o_go (by first | exact .inl rfl | exact .inr ⟨_, _, _, rfl, rfl, rfl⟩) ?_ | refine o_nil ?_)) | (refine k_run ?_; (first | refine r_seq ?_ | refine r_region ?_ | refine r_true rfl ?_ | refine r_skip ?_ | refine r_block ?_ | refine r_scope ?_ | refine r_tr ?_ | refine r_if rfl (fun _ => ?_) (fun _ => ?_) | refine r_ifn rfl (fun _ => ?_) (fun _ => ?_) | refine r_exit rfl ?_)) | (refine k_tr ?_; (first | (refine kt_end ?_; refine t_end mix (by kernel_rfl) ?_) | refine t_sv rfl (by first | exact rfl | exact ⟨_, rfl, rfl, rfl⟩) (by decide) ?_ | (refine kt_sindex ?_; (first | refine t_val (v_sindex rfl (by omega) e3') (by first | exact rfl | exact ⟨_, rfl, rfl, rfl⟩) rfl rfl (by decide) ?_ | refine t_val (v_sindex rfl (by omega) f1') (by first | exact rfl | exact ⟨_, rfl, rfl, rfl⟩) rfl rfl (by decide) ?_)) | (refine kt_bin ?_; (refine t_val (v_add (wi64 (by omega) (by omega))) (by first | exact rfl | exact ⟨_, rfl, rfl, rfl⟩) rfl rfl (by decide) ?_)) | (refine kt_slice ?_; (refine t_val (v_sslicef rfl (by omega) (by omega)) (by first | exact rfl | exact ⟨_, rfl, rfl, rfl⟩) rfl rfl (by decide) ?_)) | (refine kt_call ?_; (refine t_fn hi (by first | exact rfl | exact ⟨_, rfl, rfl, rfl⟩) rfl (by decide) ?_)))))
    all_goals try (exfalso; omega)
    exact r_ret Tryd.func80 _ (res_one rfl rfl) ⟨rfl, rfl⟩
theorem containsRune_s {sp : List Int} (hsp : Sp sp) (c : Int) (hc0 : -1 ≤ c) (hc1 : c ≤ 1114111) : PureF Tryd.prog 69 [S (spB sp), I .i32 c] (B (sp.contains c)) := by
  refine pure_of fun H => ?_
  refine spec_of Tryd.func69 (by kernel_rfl) rfl (by simp) ?_
  dsimp only [Tryd.f69]
  have h := idxRune_s hsp c hc0 hc1
  rw [← ixR_c hsp]
  repeat' (first | (refine k_op1 ?_; (first | refine o_sv rfl (by decide) ?_ | (refine k_call ?_; (refine o_fn h rfl (by decide) ?_)))) | (refine k_ops ?_; (first | refine o_go (by first | exact .inl rfl | exact .inr ⟨_, _, _, rfl, rfl, rfl⟩) ?_ | refine o_nil ?_)) | (refine k_run ?_; (first | refine r_seq ?_ | refine r_region ?_)))
  all_goals try (exfalso; omega)
  exact r_ret Tryd.func69 _ (res_one rfl rfl) ⟨rfl, rfl⟩
end Go.Proofs.YtjmbjgecfpggdaaDoor
namespace Go.Proofs.YtjmbjgecfpggdaaDoor
open Go.Ab Go.Rx
set_option maxHeartbeats 20000000
set_option maxRecDepth 100000
set_option linter.unusedVariables false
set_option linter.unusedSimpArgs false
set_option linter.unusedSectionVars false
attribute [local irreducible] Run Ops Op1 Does Val Tr PureF Eff1 NF Rel EffV EffM
theorem dec_asc {s : ByteArray} {i : Nat} (hi : i < s.size) (h : (Utf8.decode s i).1 < 128) : (Utf8.decode s i).2 = 1 := by
  by_cases ha : (s[i]'hi).toNat < 128
  · rw [decode_ascii s i hi ha]
  · have := (decode_high s i hi (by omega)).1; omega
theorem nx_lt {s : ByteArray} {i : Nat} (hi : i ≤ s.size) (h : 0 ≤ nx (rst s i)) : i < s.size := by
  false_or_by_contra
  rw [rst_ge (by omega)] at h; simp [nx] at h
theorem nx_rng (s : ByteArray) (i : Nat) : -1 ≤ nx (rst s i) ∧ nx (rst s i) ≤ 1114111 := by
  by_cases hi : i < s.size
  · rw [rst_nx hi]; have := dec_hi s i; omega
  · rw [rst_ge (by omega)]; simp [nx]
/-- an ASCII sign is read by one step -/
theorem rst_asc {s : ByteArray} {i : Nat} (hi : i ≤ s.size) {c : Int} (hc : nx (rst s i) = c) (h0 : 0 ≤ c) (h1 : c < 128) : i < s.size ∧ (rst s i).tail = rst s (i + 1) ∧ rst s i = ⟨c, 1⟩ :: rst s (i + 1) := by
  have hlt := nx_lt hi (by omega)
  rw [rst_nx hlt] at hc
  have hw := dec_asc hlt (by omega)
  have e := rst_lt hlt
  rw [hw, hc] at e
  exact ⟨hlt, by rw [e]; rfl, e⟩
abbrev ebx (s : ByteArray) (a e : Int) : Blk := .box [S s, .any, I .i64 a, I .i64 e]
def bkOf {α : Type} (s : ByteArray) : Rd α → Blk
  | .ok _ r => pbx s ((s.size - bts r : Nat) : Int) 0 0
  | .err a e => ebx s ((s.size - bts a : Nat) : Int) e
  | .out => .gone
def rsOf {α : Type} (enc : α → D) (z : D) : Rd α → PV
  | .ok a _ => .tup [.d (enc a), B true]
  | .err _ _ => .tup [.d z, B false]
  | .out => .any
theorem bk_ok {α : Type} {s : ByteArray} {a : α} {i : Nat} (hi : i ≤ s.size) : bkOf s (.ok a (rst s i)) = pbx s (i : Nat) 0 0 := by
  rw [bkOf, rst_size hi, show s.size - (s.size - i) = i by omega]
theorem bk_err {α : Type} {s : ByteArray} {e : Int} {i : Nat} (hi : i ≤ s.size) : bkOf s (.err (rst s i) e : Rd α) = ebx s (i : Nat) e := by
  rw [bkOf, rst_size hi, show s.size - (s.size - i) = i by omega]
theorem wkP {a b c d : PV} : Wk [a, b, c, d] [a, .any, c, d] := ⟨.inl rfl, .inr rfl, .inl rfl, .inl rfl, trivial⟩
theorem digit_s (c : Int) : PureF Tryd.prog 88 [I .i32 c] (B (dgt c)) := by
  refine pure_of fun H => ?_
  refine spec_of Tryd.func88 (by kernel_rfl) rfl (by simp) ?_
  dsimp only [Tryd.f88]
  rw [dgt]
  by_cases h1 : 48 ≤ c
  · rw [decide_eq_true h1, Bool.true_and]
    repeat' (first | (refine k_op1 ?_; (refine o_sv rfl (by decide) ?_)) | (refine k_ops ?_; (first | refine o_go (by first | exact .inl rfl | exact .inr ⟨_, _, _, rfl, rfl, rfl⟩) ?_ | refine o_nil ?_ | refine o_no rfl rfl (by decide) ?_ | refine o_casep rfl rfl (fun _ => ?_) (fun _ => ?_))) | (refine k_run ?_; (first | refine r_seq ?_ | refine r_region ?_)))
    all_goals try (exfalso; omega)
    exact r_ret Tryd.func88 _ (res_one rfl rfl) ⟨rfl, rfl⟩
  · rw [decide_eq_false h1, Bool.false_and]
    repeat' (first | (refine k_op1 ?_; (refine o_sv rfl (by decide) ?_)) | (refine k_ops ?_; (first | refine o_go (by first | exact .inl rfl | exact .inr ⟨_, _, _, rfl, rfl, rfl⟩) ?_ | refine o_nil ?_ | refine o_no rfl rfl (by decide) ?_ | refine o_casep rfl rfl (fun _ => ?_) (fun _ => ?_))) | (refine k_run ?_; (first | refine r_seq ?_ | refine r_region ?_)))
    all_goals try (exfalso; omega)
    exact r_ret Tryd.func88 _ (res_one rfl rfl) ⟨rfl, rfl⟩
section
variable {X : Nat} (hX0 : X ≠ 700) (hX1 : X ≠ 701) (τ : Tab) (s : ByteArray) (hs : s.size ≤ 1000000)
include hX0 hX1 hs
/-- a given sign is read -/
theorem eat_s (i : Nat) (hi : i ≤ s.size) (c : Int) (h0 : 0 ≤ c) (h1 : c < 128) (e0 : Nat) : Eff1 Tryd.prog 73 [.ptr (e0, X) 0, I .i32 c] (((e0, X), pbx s i 0 0) :: tabs τ (e0 + 1))
    [((e0, X), if nx (rst s i) = c then pbx s ((i + 1 : Nat) : Int) 0 0 else ebx s (i : Nat) 3)] (B (decide (nx (rst s i) = c))) := by
  refine eff_of fun H hH => ?_
  have hX : H e0 X = some (pbx s i 0 0) := hH ((e0, X), pbx s i 0 0) (by simp)
  have hT : HT τ (e0 + 1) H := HT.of (bs := [((e0, X), pbx s i 0 0)]) hH
  refine spec_of Tryd.func73 (by kernel_rfl) rfl (by simp) ?_
  dsimp only [Tryd.f73]
  have hn := next_s (X := X) τ s i hi 0 0 (e0 + 1)
  have hf := fail_s (X := X) s (I .i64 i) i 3 (e0 + 1) (by decide)
  by_cases hc : nx (rst s i) = c
  · obtain ⟨hlt, _, _⟩ := rst_asc hi hc h0 h1
    rw [if_pos hc, decide_eq_true hc]
    repeat' (first | (refine k_op1 ?_; (first | refine o_sv rfl (by decide) ?_ | (refine k_load ?_; (refine o_loadu rfl hX rfl rfl rfl rfl (by decide) ?_)) | (refine k_field ?_; (refine o_val (v_field rfl rfl) rfl rfl (by decide) ?_)) | (refine k_bin ?_; (refine o_val (v_add (wi64 (by omega) (by omega))) rfl rfl (by decide) ?_)) | (refine k_call ?_; (first | refine o_effu hf rfl hX (by decide) ?_ | refine o_effd hn rfl (bk_cons (m := (e0 + 1, X)) hX (bkT (by repeat (first | exact hT | refine HT.upd ?_ hX0 hX1)))) (by decide) ?_)) | (refine k_store ?_; (refine o_storeu (raw' := pbx s ((i + 1 : Nat) : Int) 0 0) rfl hX rfl rfl rfl rfl rfl rfl ?_)))) | (refine k_ops ?_; (first | refine o_go (by first | exact .inl rfl | exact .inr ⟨_, _, _, rfl, rfl, rfl⟩) ?_ | refine o_nil ?_)) | (refine k_run ?_; (first | refine r_seq ?_ | refine r_region ?_ | refine r_skip ?_ | refine r_ifn rfl (fun _ => ?_) (fun _ => ?_))))
    all_goals try (exfalso; omega)
    exact r_ret Tryd.func73 _ (res_one rfl rfl) ⟨rfl, rfl⟩
  · rw [if_neg hc, decide_eq_false hc]
    repeat' (first | (refine k_op1 ?_; (first | refine o_sv rfl (by decide) ?_ | (refine k_load ?_; (refine o_loadu rfl hX rfl rfl rfl rfl (by decide) ?_)) | (refine k_field ?_; (refine o_val (v_field rfl rfl) rfl rfl (by decide) ?_)) | (refine k_bin ?_; (refine o_val (v_add (wi64 (by omega) (by omega))) rfl rfl (by decide) ?_)) | (refine k_call ?_; (first | refine o_effu hf rfl hX (by decide) ?_ | refine o_effd hn rfl (bk_cons (m := (e0 + 1, X)) hX (bkT (by repeat (first | exact hT | refine HT.upd ?_ hX0 hX1)))) (by decide) ?_)) | (refine k_store ?_; (refine o_storeu (raw' := pbx s ((i + 1 : Nat) : Int) 0 0) rfl hX rfl rfl rfl rfl rfl rfl ?_)))) | (refine k_ops ?_; (first | refine o_go (by first | exact .inl rfl | exact .inr ⟨_, _, _, rfl, rfl, rfl⟩) ?_ | refine o_nil ?_)) | (refine k_run ?_; (first | refine r_seq ?_ | refine r_region ?_ | refine r_skip ?_ | refine r_ifn rfl (fun _ => ?_) (fun _ => ?_))))
    all_goals try (exfalso; omega)
    refine r_weak (d := e0) (X := X) (qs := [S s, .any, I .i64 i, I .i64 3]) wkP ?_
    exact r_ret Tryd.func73 _ (res_one rfl rfl) ⟨rfl, rfl⟩
end
end Go.Proofs.YtjmbjgecfpggdaaDoor
namespace Go.Proofs.YtjmbjgecfpggdaaDoor
open Go.Ab Go.Rx
set_option maxHeartbeats 20000000
set_option maxRecDepth 100000
set_option linter.unusedVariables false
set_option linter.unusedSimpArgs false
set_option linter.unusedSectionVars false
attribute [local irreducible] Run Ops Op1 Does Val Tr PureF Eff1 NF Rel EffV EffM
abbrev eR (c : Int) : D := .lit (.int .i32 c)
abbrev eN (c : Int) : D := .lit (.int .i64 c)
section
variable {X : Nat} (hX0 : X ≠ 700) (hX1 : X ≠ 701) (τ : Tab) (s : ByteArray) (hs : s.size ≤ 1000000)
include hX0 hX1 hs
theorem char_s {sp : List Int} (hsp : Sp sp) (i : Nat) (hi : i ≤ s.size) (h0 : 0 ≤ nx (rst s i)) (hok : nx (rst s i) = 92 ∨ sp.contains (nx (rst s i)) = false) (e0 : Nat) :
    Eff1 Tryd.prog 76 [.ptr (e0, X) 0, S (spB sp)] (((e0, X), pbx s i 0 0) :: tabs τ (e0 + 1)) [((e0, X), bkOf s (pChr sp (rst s i)))] (rsOf eR (eR 0) (pChr sp (rst s i))) := by
  refine eff_of fun H hH => ?_
  have hX : H e0 X = some (pbx s i 0 0) := hH ((e0, X), pbx s i 0 0) (by simp)
  have hT : HT τ (e0 + 1) H := HT.of (bs := [((e0, X), pbx s i 0 0)]) hH
  refine spec_of Tryd.func76 (by kernel_rfl) rfl (by simp) ?_
  dsimp only [Tryd.f76]
  have hlt := nx_lt hi h0
  have hn := next_s (X := X) τ s i hi 0 0 (e0 + 1)
  by_cases hc : nx (rst s i) = 92
  · obtain ⟨_, ht, he⟩ := rst_asc hi hc (by decide) (by decide)
    have hn1 := next_s (X := X) τ s (i + 1) hlt 0 0 (e0 + 1)
    have hf := fail_s (X := X) s (I .i64 ((i + 1 : Nat) : Int)) ((i + 1 : Nat) : Int) 3 (e0 + 1) (by decide)
    rw [he, pChr_cons, if_pos rfl]
    by_cases hl1 : i + 1 < s.size
    · have hr := nx_rng s (i + 1)
      have hcr := containsRune_s hsp (nx (rst s (i + 1))) hr.1 hr.2
      have e1 := rst_lt hl1
      have hx1 := rst_nx hl1
      have hsk := skip_s (X := X) τ s (i + 1) hl1 hs 0 0 (e0 + 1)
      have hw := dec_w s (i + 1) hl1
      generalize hq : nx (rst s (i + 1)) = q at *
      rw [e1]
      simp only
      rw [← hx1]
      cases hcc : sp.contains q with
      | true =>
        rw [hcc] at hcr
        rw [if_pos rfl, bk_ok (by omega)]
        repeat' (first | (refine k_op1 ?_; (first | refine o_sv rfl (by decide) ?_ | (refine k_load ?_; (first | refine o_loadu rfl (upd_get _ (e0, X) _) rfl rfl rfl rfl (by decide) ?_ | refine o_loadu rfl hX rfl rfl rfl rfl (by decide) ?_)) | (refine k_field ?_; (refine o_val (v_field rfl rfl) rfl rfl (by decide) ?_)) | (refine k_bin ?_; (refine o_val (v_add (wi64 (by omega) (by omega))) rfl rfl (by decide) ?_)) | (refine k_call ?_; (first | refine o_effut hsk rfl (upd_get _ (e0, X) _) (bkT (by repeat (first | exact hT | refine HT.upd ?_ hX0 hX1))) (by decide) ?_ | refine o_effu hf rfl (upd_get _ (e0, X) _) (by decide) ?_ | refine o_effd hn1 rfl (bk_cons (m := (e0 + 1, X)) (upd_get _ (e0, X) _) (bkT (by repeat (first | exact hT | refine HT.upd ?_ hX0 hX1)))) (by decide) ?_ | refine o_effd hn rfl (bk_cons (m := (e0 + 1, X)) hX (bkT (by repeat (first | exact hT | refine HT.upd ?_ hX0 hX1)))) (by decide) ?_ | refine o_fn hcr rfl (by decide) ?_)) | (refine k_store ?_; (refine o_storeu (raw' := pbx s ((i + 1 : Nat) : Int) 0 0) rfl hX rfl rfl rfl rfl rfl rfl ?_)))) | (refine k_ops ?_; (first | refine o_go (by first | exact .inl rfl | exact .inr ⟨_, _, _, rfl, rfl, rfl⟩) ?_ | refine o_nil ?_ | refine o_no rfl rfl (by decide) ?_ | refine o_casep rfl rfl (fun _ => ?_) (fun _ => ?_))) | (refine k_run ?_; (first | refine r_seq ?_ | refine r_region ?_ | refine r_true rfl ?_ | refine r_false rfl ?_ | refine r_skip ?_ | refine r_if rfl (fun _ => ?_) (fun _ => ?_))))
        all_goals try (exfalso; omega)
        all_goals ((repeat rw [upd_upd']); first | exact r_ret Tryd.func76 _ (res_cell_one rfl rfl rfl rfl rfl rfl rfl) ⟨rfl, rfl⟩ | exact r_ret Tryd.func76 _ (res_two rfl rfl rfl) ⟨rfl, rfl⟩ | exact r_ret Tryd.func76 _ (res_one rfl rfl) ⟨rfl, rfl⟩ | exact r_ret Tryd.func76 _ (res_three rfl rfl rfl rfl) ⟨rfl, rfl⟩)
      | false =>
        rw [hcc] at hcr
        rw [if_neg (by simp), hx1, ← e1, bk_err (by omega)]
        repeat' (first | (refine k_op1 ?_; (first | refine o_sv rfl (by decide) ?_ | (refine k_load ?_; (first | refine o_loadu rfl (upd_get _ (e0, X) _) rfl rfl rfl rfl (by decide) ?_ | refine o_loadu rfl hX rfl rfl rfl rfl (by decide) ?_)) | (refine k_field ?_; (refine o_val (v_field rfl rfl) rfl rfl (by decide) ?_)) | (refine k_bin ?_; (refine o_val (v_add (wi64 (by omega) (by omega))) rfl rfl (by decide) ?_)) | (refine k_call ?_; (first | refine o_effu hf rfl (upd_get _ (e0, X) _) (by decide) ?_ | refine o_effd hn1 rfl (bk_cons (m := (e0 + 1, X)) (upd_get _ (e0, X) _) (bkT (by repeat (first | exact hT | refine HT.upd ?_ hX0 hX1)))) (by decide) ?_ | refine o_effd hn rfl (bk_cons (m := (e0 + 1, X)) hX (bkT (by repeat (first | exact hT | refine HT.upd ?_ hX0 hX1)))) (by decide) ?_ | refine o_fn hcr rfl (by decide) ?_)) | (refine k_store ?_; (refine o_storeu (raw' := pbx s ((i + 1 : Nat) : Int) 0 0) rfl hX rfl rfl rfl rfl rfl rfl ?_)))) | (refine k_ops ?_; (first | refine o_go (by first | exact .inl rfl | exact .inr ⟨_, _, _, rfl, rfl, rfl⟩) ?_ | refine o_nil ?_ | refine o_no rfl rfl (by decide) ?_ | refine o_casep rfl rfl (fun _ => ?_) (fun _ => ?_))) | (refine k_run ?_; (first | refine r_seq ?_ | refine r_region ?_ | refine r_true rfl ?_ | refine r_skip ?_ | refine r_if rfl (fun _ => ?_) (fun _ => ?_))))
        all_goals try (exfalso; omega)
        all_goals ((repeat rw [upd_upd']); refine r_weak wkP ?_; first | exact r_ret Tryd.func76 _ (res_cell_one rfl rfl rfl rfl rfl rfl rfl) ⟨rfl, rfl⟩ | exact r_ret Tryd.func76 _ (res_two rfl rfl rfl) ⟨rfl, rfl⟩ | exact r_ret Tryd.func76 _ (res_one rfl rfl) ⟨rfl, rfl⟩ | exact r_ret Tryd.func76 _ (res_three rfl rfl rfl rfl) ⟨rfl, rfl⟩)
    · have e1 := rst_ge (s := s) (i := i + 1) (by omega)
      have hx1 : nx (rst s (i + 1)) = -1 := by rw [e1]; rfl
      rw [e1]
      simp only
      rw [← e1, bk_err (by omega)]
      rw [hx1] at hn1
      repeat' (first | (refine k_op1 ?_; (first | refine o_sv rfl (by decide) ?_ | (refine k_load ?_; (first | refine o_loadu rfl (upd_get _ (e0, X) _) rfl rfl rfl rfl (by decide) ?_ | refine o_loadu rfl hX rfl rfl rfl rfl (by decide) ?_)) | (refine k_field ?_; (refine o_val (v_field rfl rfl) rfl rfl (by decide) ?_)) | (refine k_bin ?_; (refine o_val (v_add (wi64 (by omega) (by omega))) rfl rfl (by decide) ?_)) | (refine k_call ?_; (first | refine o_effu hf rfl (upd_get _ (e0, X) _) (by decide) ?_ | refine o_effd hn1 rfl (bk_cons (m := (e0 + 1, X)) (upd_get _ (e0, X) _) (bkT (by repeat (first | exact hT | refine HT.upd ?_ hX0 hX1)))) (by decide) ?_ | refine o_effd hn rfl (bk_cons (m := (e0 + 1, X)) hX (bkT (by repeat (first | exact hT | refine HT.upd ?_ hX0 hX1)))) (by decide) ?_)) | (refine k_store ?_; (refine o_storeu (raw' := pbx s ((i + 1 : Nat) : Int) 0 0) rfl hX rfl rfl rfl rfl rfl rfl ?_)))) | (refine k_ops ?_; (first | refine o_go (by first | exact .inl rfl | exact .inr ⟨_, _, _, rfl, rfl, rfl⟩) ?_ | refine o_nil ?_ | refine o_no rfl rfl (by decide) ?_)) | (refine k_run ?_; (first | refine r_seq ?_ | refine r_region ?_ | refine r_true rfl ?_ | refine r_skip ?_ | refine r_if rfl (fun _ => ?_) (fun _ => ?_))))
      all_goals try (exfalso; omega)
      all_goals ((repeat rw [upd_upd']); refine r_weak wkP ?_; first | exact r_ret Tryd.func76 _ (res_cell_one rfl rfl rfl rfl rfl rfl rfl) ⟨rfl, rfl⟩ | exact r_ret Tryd.func76 _ (res_two rfl rfl rfl) ⟨rfl, rfl⟩ | exact r_ret Tryd.func76 _ (res_one rfl rfl) ⟨rfl, rfl⟩ | exact r_ret Tryd.func76 _ (res_three rfl rfl rfl rfl) ⟨rfl, rfl⟩)
  · have hok' := hok.resolve_left hc
    have e0' := rst_lt hlt
    have hx := rst_nx hlt
    have hw := dec_w s i hlt
    have hsk := skip_s (X := X) τ s i hlt hs 0 0 (e0 + 1)
    generalize hq : nx (rst s i) = q at *
    rw [e0', pChr_cons]
    simp only
    rw [← hx, if_neg hc, if_neg (by rw [hok']; decide), bk_ok (by omega)]
    repeat' (first | (refine k_op1 ?_; (first | refine o_sv rfl (by decide) ?_ | (refine k_load ?_; (refine o_loadu rfl hX rfl rfl rfl rfl (by decide) ?_)) | (refine k_field ?_; (refine o_val (v_field rfl rfl) rfl rfl (by decide) ?_)) | (refine k_bin ?_; (refine o_val (v_add (wi64 (by omega) (by omega))) rfl rfl (by decide) ?_)) | (refine k_call ?_; (first | refine o_effut hsk rfl hX (bkT (by repeat (first | exact hT | refine HT.upd ?_ hX0 hX1))) (by decide) ?_ | refine o_effd hn rfl (bk_cons (m := (e0 + 1, X)) hX (bkT (by repeat (first | exact hT | refine HT.upd ?_ hX0 hX1)))) (by decide) ?_)))) | (refine k_ops ?_; (first | refine o_go (by first | exact .inl rfl | exact .inr ⟨_, _, _, rfl, rfl, rfl⟩) ?_ | refine o_nil ?_)) | (refine k_run ?_; (first | refine r_seq ?_ | refine r_region ?_ | refine r_skip ?_ | refine r_if rfl (fun _ => ?_) (fun _ => ?_))))
    all_goals try (exfalso; omega)
    all_goals ((repeat rw [upd_upd']); first | exact r_ret Tryd.func76 _ (res_cell_one rfl rfl rfl rfl rfl rfl rfl) ⟨rfl, rfl⟩ | exact r_ret Tryd.func76 _ (res_two rfl rfl rfl) ⟨rfl, rfl⟩ | exact r_ret Tryd.func76 _ (res_one rfl rfl) ⟨rfl, rfl⟩ | exact r_ret Tryd.func76 _ (res_three rfl rfl rfl rfl) ⟨rfl, rfl⟩)
end
end Go.Proofs.YtjmbjgecfpggdaaDoor
namespace Go.Proofs.YtjmbjgecfpggdaaDoor
open Go.Ab Go.Rx
set_option maxHeartbeats 20000000
set_option maxRecDepth 100000
set_option linter.unusedVariables false
set_option linter.unusedSimpArgs false
set_option linter.unusedSectionVars false
attribute [local irreducible] Run Ops Op1 Does Val Tr PureF Eff1 NF Rel EffV EffM
theorem dgt_t {c : Int} (h : dgt c = true) : 48 ≤ c ∧ c ≤ 57 := by simpa [dgt] using h
theorem pNum_dig {k c : Int} {n : Nat} {l : List U} : pNum k (⟨c, n⟩ :: l) = if dgt c = false then .err (⟨c, n⟩ :: l) 3
    else if 0 < c - 48 ∧ l = [] then .err [] 3
    else if 0 < c - 48 ∧ dgt (nx l) = true then
      (if 16 < 10 * (c - 48) + (nx l - 48) ∨ 10 * (c - 48) + (nx l - 48) < k then .err (⟨c, n⟩ :: l) 8 else .ok (10 * (c - 48) + (nx l - 48)) l.tail)
    else if 16 < c - 48 ∨ c - 48 < k then .err (⟨c, n⟩ :: l) 8 else .ok (c - 48) l := rfl
section
variable {X : Nat} (hX0 : X ≠ 700) (hX1 : X ≠ 701) (τ : Tab) (s : ByteArray) (hs : s.size ≤ 1000000)
include hX0 hX1 hs
theorem member_s (i : Nat) (hi : i ≤ s.size) (e0 : Nat) :
    Eff1 Tryd.prog 84 [.ptr (e0, X) 0] (((e0, X), pbx s i 0 0) :: tabs τ (e0 + 1)) [((e0, X), bkOf s (pChr spC (rst s i)))] (rsOf eR (eR 0) (pChr spC (rst s i))) := by
  refine eff_of fun H hH => ?_
  have hX : H e0 X = some (pbx s i 0 0) := hH ((e0, X), pbx s i 0 0) (by simp)
  have hT : HT τ (e0 + 1) H := HT.of (bs := [((e0, X), pbx s i 0 0)]) hH
  refine spec_of Tryd.func84 (by kernel_rfl) rfl (by simp) ?_
  dsimp only [Tryd.f84]
  have hn := next_s (X := X) τ s i hi 0 0 (e0 + 1)
  have hf := fail_s (X := X) s (I .i64 i) i 3 (e0 + 1) (by decide)
  have hr := nx_rng s i
  have hcr := containsRune_s sp_C (nx (rst s i)) hr.1 hr.2
  by_cases hlt : i < s.size
  · have hx := rst_nx hlt
    have e1 := rst_lt hlt
    by_cases hc : nx (rst s i) = 92 ∨ spC.contains (nx (rst s i)) = false
    · have hch := char_s hX0 hX1 τ s hs sp_C i hi (by rw [hx]; omega) hc (e0 + 1)
      have h0 : 0 ≤ nx (rst s i) := by rw [hx]; omega
      rcases hp : pChr spC (rst s i) with ⟨c, r⟩ | ⟨a, e⟩ | _
      · rw [hp] at hch
        rcases hc with hc | hc
        · repeat' (first | (refine k_op1 ?_; (first | refine o_sv rfl (by decide) ?_ | (refine k_load ?_; (refine o_loadu rfl hX rfl rfl rfl rfl (by decide) ?_)) | (refine k_field ?_; (refine o_val (v_field rfl rfl) rfl rfl (by decide) ?_)) | (refine k_call ?_; (first | refine o_effut hch rfl hX (bkT (by repeat (first | exact hT | refine HT.upd ?_ hX0 hX1))) (by decide) ?_ | refine o_effu hf rfl hX (by decide) ?_ | refine o_effd hn rfl (bk_cons (m := (e0 + 1, X)) hX (bkT (by repeat (first | exact hT | refine HT.upd ?_ hX0 hX1)))) (by decide) ?_ | refine o_fn hcr rfl (by decide) ?_)))) | (refine k_ops ?_; (first | refine o_go (by first | exact .inl rfl | exact .inr ⟨_, _, _, rfl, rfl, rfl⟩) ?_ | refine o_nil ?_ | refine o_no rfl rfl (by decide) ?_ | refine o_no2 rfl rfl (by decide) ?_ | refine o_casep rfl rfl (fun _ => ?_) (fun _ => ?_) | refine o_casen rfl rfl (fun _ => ?_) (fun _ => ?_))) | (refine k_run ?_; (first | refine r_seq ?_ | refine r_region ?_ | refine r_true rfl ?_ | refine r_false rfl ?_ | refine r_skip ?_ | refine r_cond rfl (fun _ => ?_) (fun _ => ?_))))
          all_goals try (exfalso; omega)
          all_goals ((repeat rw [upd_upd']); first | exact r_ret Tryd.func84 _ (res_cell_one rfl rfl rfl rfl rfl rfl rfl) ⟨rfl, rfl⟩ | exact r_ret Tryd.func84 _ (res_two rfl rfl rfl) ⟨rfl, rfl⟩ | exact r_ret Tryd.func84 _ (res_one rfl rfl) ⟨rfl, rfl⟩ | exact r_ret Tryd.func84 _ (res_three rfl rfl rfl rfl) ⟨rfl, rfl⟩)
        · rw [hc] at hcr
          repeat' (first | (refine k_op1 ?_; (first | refine o_sv rfl (by decide) ?_ | (refine k_load ?_; (refine o_loadu rfl hX rfl rfl rfl rfl (by decide) ?_)) | (refine k_field ?_; (refine o_val (v_field rfl rfl) rfl rfl (by decide) ?_)) | (refine k_call ?_; (first | refine o_effut hch rfl hX (bkT (by repeat (first | exact hT | refine HT.upd ?_ hX0 hX1))) (by decide) ?_ | refine o_effu hf rfl hX (by decide) ?_ | refine o_effd hn rfl (bk_cons (m := (e0 + 1, X)) hX (bkT (by repeat (first | exact hT | refine HT.upd ?_ hX0 hX1)))) (by decide) ?_ | refine o_fn hcr rfl (by decide) ?_)))) | (refine k_ops ?_; (first | refine o_go (by first | exact .inl rfl | exact .inr ⟨_, _, _, rfl, rfl, rfl⟩) ?_ | refine o_nil ?_ | refine o_no rfl rfl (by decide) ?_ | refine o_no2 rfl rfl (by decide) ?_ | refine o_casep rfl rfl (fun _ => ?_) (fun _ => ?_) | refine o_casen rfl rfl (fun _ => ?_) (fun _ => ?_))) | (refine k_run ?_; (first | refine r_seq ?_ | refine r_region ?_ | refine r_true rfl ?_ | refine r_false rfl ?_ | refine r_skip ?_)))
          all_goals try (exfalso; omega)
          all_goals ((repeat rw [upd_upd']); first | exact r_ret Tryd.func84 _ (res_cell_one rfl rfl rfl rfl rfl rfl rfl) ⟨rfl, rfl⟩ | exact r_ret Tryd.func84 _ (res_two rfl rfl rfl) ⟨rfl, rfl⟩ | exact r_ret Tryd.func84 _ (res_one rfl rfl) ⟨rfl, rfl⟩ | exact r_ret Tryd.func84 _ (res_three rfl rfl rfl rfl) ⟨rfl, rfl⟩)
      · rw [hp] at hch
        rcases hc with hc | hc
        · repeat' (first | (refine k_op1 ?_; (first | refine o_sv rfl (by decide) ?_ | (refine k_load ?_; (refine o_loadu rfl hX rfl rfl rfl rfl (by decide) ?_)) | (refine k_field ?_; (refine o_val (v_field rfl rfl) rfl rfl (by decide) ?_)) | (refine k_call ?_; (first | refine o_effut hch rfl hX (bkT (by repeat (first | exact hT | refine HT.upd ?_ hX0 hX1))) (by decide) ?_ | refine o_effu hf rfl hX (by decide) ?_ | refine o_effd hn rfl (bk_cons (m := (e0 + 1, X)) hX (bkT (by repeat (first | exact hT | refine HT.upd ?_ hX0 hX1)))) (by decide) ?_ | refine o_fn hcr rfl (by decide) ?_)))) | (refine k_ops ?_; (first | refine o_go (by first | exact .inl rfl | exact .inr ⟨_, _, _, rfl, rfl, rfl⟩) ?_ | refine o_nil ?_ | refine o_no rfl rfl (by decide) ?_ | refine o_no2 rfl rfl (by decide) ?_ | refine o_casep rfl rfl (fun _ => ?_) (fun _ => ?_) | refine o_casen rfl rfl (fun _ => ?_) (fun _ => ?_))) | (refine k_run ?_; (first | refine r_seq ?_ | refine r_region ?_ | refine r_true rfl ?_ | refine r_false rfl ?_ | refine r_skip ?_ | refine r_cond rfl (fun _ => ?_) (fun _ => ?_))))
          all_goals try (exfalso; omega)
          all_goals ((repeat rw [upd_upd']); first | exact r_ret Tryd.func84 _ (res_cell_one rfl rfl rfl rfl rfl rfl rfl) ⟨rfl, rfl⟩ | exact r_ret Tryd.func84 _ (res_two rfl rfl rfl) ⟨rfl, rfl⟩ | exact r_ret Tryd.func84 _ (res_one rfl rfl) ⟨rfl, rfl⟩ | exact r_ret Tryd.func84 _ (res_three rfl rfl rfl rfl) ⟨rfl, rfl⟩)
        · rw [hc] at hcr
          repeat' (first | (refine k_op1 ?_; (first | refine o_sv rfl (by decide) ?_ | (refine k_load ?_; (refine o_loadu rfl hX rfl rfl rfl rfl (by decide) ?_)) | (refine k_field ?_; (refine o_val (v_field rfl rfl) rfl rfl (by decide) ?_)) | (refine k_call ?_; (first | refine o_effut hch rfl hX (bkT (by repeat (first | exact hT | refine HT.upd ?_ hX0 hX1))) (by decide) ?_ | refine o_effu hf rfl hX (by decide) ?_ | refine o_effd hn rfl (bk_cons (m := (e0 + 1, X)) hX (bkT (by repeat (first | exact hT | refine HT.upd ?_ hX0 hX1)))) (by decide) ?_ | refine o_fn hcr rfl (by decide) ?_)))) | (refine k_ops ?_; (first | refine o_go (by first | exact .inl rfl | exact .inr ⟨_, _, _, rfl, rfl, rfl⟩) ?_ | refine o_nil ?_ | refine o_no rfl rfl (by decide) ?_ | refine o_no2 rfl rfl (by decide) ?_ | refine o_casep rfl rfl (fun _ => ?_) (fun _ => ?_) | refine o_casen rfl rfl (fun _ => ?_) (fun _ => ?_))) | (refine k_run ?_; (first | refine r_seq ?_ | refine r_region ?_ | refine r_true rfl ?_ | refine r_false rfl ?_ | refine r_skip ?_)))
          all_goals try (exfalso; omega)
          all_goals ((repeat rw [upd_upd']); first | exact r_ret Tryd.func84 _ (res_cell_one rfl rfl rfl rfl rfl rfl rfl) ⟨rfl, rfl⟩ | exact r_ret Tryd.func84 _ (res_two rfl rfl rfl) ⟨rfl, rfl⟩ | exact r_ret Tryd.func84 _ (res_one rfl rfl) ⟨rfl, rfl⟩ | exact r_ret Tryd.func84 _ (res_three rfl rfl rfl rfl) ⟨rfl, rfl⟩)
      · exfalso
        have := hp
        rw [e1, pChr_cons] at this
        split at this
        · split at this
          · simp at this
          · split at this <;> simp at this
        · split at this <;> simp at this
    · have h1 : nx (rst s i) ≠ 92 := fun h => hc (.inl h)
      have h2 : spC.contains (nx (rst s i)) = true := by
        cases h : spC.contains (nx (rst s i)) with
        | true => rfl
        | false => exact absurd (.inr h) hc
      rw [h2] at hcr
      have h0 : 0 ≤ nx (rst s i) := by rw [hx]; omega
      have hp : pChr spC (rst s i) = .err (rst s i) 3 := by
        rw [e1, pChr_cons]
        simp only
        rw [← hx, if_neg h1, if_pos h2]
      rw [hp, bk_err hi]
      repeat' (first | (refine k_op1 ?_; (first | refine o_sv rfl (by decide) ?_ | (refine k_load ?_; (refine o_loadu rfl hX rfl rfl rfl rfl (by decide) ?_)) | (refine k_field ?_; (refine o_val (v_field rfl rfl) rfl rfl (by decide) ?_)) | (refine k_call ?_; (first | refine o_effu hf rfl hX (by decide) ?_ | refine o_effd hn rfl (bk_cons (m := (e0 + 1, X)) hX (bkT (by repeat (first | exact hT | refine HT.upd ?_ hX0 hX1)))) (by decide) ?_ | refine o_fn hcr rfl (by decide) ?_)))) | (refine k_ops ?_; (first | refine o_go (by first | exact .inl rfl | exact .inr ⟨_, _, _, rfl, rfl, rfl⟩) ?_ | refine o_nil ?_ | refine o_no rfl rfl (by decide) ?_ | refine o_no2 rfl rfl (by decide) ?_ | refine o_casep rfl rfl (fun _ => ?_) (fun _ => ?_) | refine o_casen rfl rfl (fun _ => ?_) (fun _ => ?_))) | (refine k_run ?_; (first | refine r_seq ?_ | refine r_region ?_ | refine r_true rfl ?_ | refine r_false rfl ?_ | refine r_skip ?_)))
      all_goals try (exfalso; omega)
      all_goals ((repeat rw [upd_upd']); refine r_weak wkP ?_; first | exact r_ret Tryd.func84 _ (res_cell_one rfl rfl rfl rfl rfl rfl rfl) ⟨rfl, rfl⟩ | exact r_ret Tryd.func84 _ (res_two rfl rfl rfl) ⟨rfl, rfl⟩ | exact r_ret Tryd.func84 _ (res_one rfl rfl) ⟨rfl, rfl⟩ | exact r_ret Tryd.func84 _ (res_three rfl rfl rfl rfl) ⟨rfl, rfl⟩)
  · have e1 := rst_ge (s := s) (i := i) (by omega)
    have hp : pChr spC (rst s i) = .err (rst s i) 3 := by rw [e1]; rfl
    have hx : nx (rst s i) = -1 := by rw [e1]; rfl
    rw [hp, bk_err hi]
    rw [hx] at hn
    repeat' (first | (refine k_op1 ?_; (first | refine o_sv rfl (by decide) ?_ | (refine k_load ?_; (refine o_loadu rfl hX rfl rfl rfl rfl (by decide) ?_)) | (refine k_field ?_; (refine o_val (v_field rfl rfl) rfl rfl (by decide) ?_)) | (refine k_call ?_; (first | refine o_effu hf rfl hX (by decide) ?_ | refine o_effd hn rfl (bk_cons (m := (e0 + 1, X)) hX (bkT (by repeat (first | exact hT | refine HT.upd ?_ hX0 hX1)))) (by decide) ?_)))) | (refine k_ops ?_; (first | refine o_go (by first | exact .inl rfl | exact .inr ⟨_, _, _, rfl, rfl, rfl⟩) ?_ | refine o_nil ?_ | refine o_no rfl rfl (by decide) ?_ | refine o_no2 rfl rfl (by decide) ?_)) | (refine k_run ?_; (first | refine r_seq ?_ | refine r_region ?_ | refine r_true rfl ?_)))
    all_goals try (exfalso; omega)
    all_goals ((repeat rw [upd_upd']); refine r_weak wkP ?_; first | exact r_ret Tryd.func84 _ (res_cell_one rfl rfl rfl rfl rfl rfl rfl) ⟨rfl, rfl⟩ | exact r_ret Tryd.func84 _ (res_two rfl rfl rfl) ⟨rfl, rfl⟩ | exact r_ret Tryd.func84 _ (res_one rfl rfl) ⟨rfl, rfl⟩ | exact r_ret Tryd.func84 _ (res_three rfl rfl rfl rfl) ⟨rfl, rfl⟩)
theorem number_s (k : Int) (hk0 : 0 ≤ k) (hk : k ≤ 16) (i : Nat) (hi : i ≤ s.size) (e0 : Nat) :
    Eff1 Tryd.prog 77 [.ptr (e0, X) 0, I .i64 k] (((e0, X), pbx s i 0 0) :: tabs τ (e0 + 1)) [((e0, X), bkOf s (pNum k (rst s i)))] (rsOf eN (eN 0) (pNum k (rst s i))) := by
  refine eff_of fun H hH => ?_
  have hX : H e0 X = some (pbx s i 0 0) := hH ((e0, X), pbx s i 0 0) (by simp)
  have hT : HT τ (e0 + 1) H := HT.of (bs := [((e0, X), pbx s i 0 0)]) hH
  refine spec_of Tryd.func77 (by kernel_rfl) rfl (by simp) ?_
  dsimp only [Tryd.f77]
  have hn := next_s (X := X) τ s i hi 0 0 (e0 + 1)
  have hf := fail_s (X := X) s (I .i64 i) i 3 (e0 + 1) (by decide)
  have hd := digit_s (nx (rst s i))
  cases hg : dgt (nx (rst s i)) with
  | false =>
    rw [hg] at hd
    have hp : pNum k (rst s i) = .err (rst s i) 3 := by
      by_cases hlt : i < s.size
      · have hx := rst_nx hlt
        have e1 := rst_lt hlt
        rw [e1, pNum_dig, ← hx, if_pos hg]
      · rw [rst_ge (by omega)]; rfl
    rw [hp, bk_err hi]
    repeat' (first | (refine k_op1 ?_; (first | refine o_sv rfl (by decide) ?_ | (refine k_load ?_; (refine o_loadu rfl hX rfl rfl rfl rfl (by decide) ?_)) | (refine k_field ?_; (refine o_val (v_field rfl rfl) rfl rfl (by decide) ?_)) | (refine k_call ?_; (first | refine o_effu hf rfl hX (by decide) ?_ | refine o_effd hn rfl (bk_cons (m := (e0 + 1, X)) hX (bkT (by repeat (first | exact hT | refine HT.upd ?_ hX0 hX1)))) (by decide) ?_ | refine o_fn hd rfl (by decide) ?_)))) | (refine k_ops ?_; (first | refine o_go (by first | exact .inl rfl | exact .inr ⟨_, _, _, rfl, rfl, rfl⟩) ?_ | refine o_nil ?_)) | (refine k_run ?_; (first | refine r_seq ?_ | refine r_region ?_ | refine r_true rfl ?_)))
    all_goals try (exfalso; omega)
    all_goals ((repeat rw [upd_upd']); refine r_weak wkP ?_; first | exact r_ret Tryd.func77 _ (res_cell_one rfl rfl rfl rfl rfl rfl rfl) ⟨rfl, rfl⟩ | exact r_ret Tryd.func77 _ (res_two rfl rfl rfl) ⟨rfl, rfl⟩ | exact r_ret Tryd.func77 _ (res_one rfl rfl) ⟨rfl, rfl⟩ | exact r_ret Tryd.func77 _ (res_three rfl rfl rfl rfl) ⟨rfl, rfl⟩)
  | true =>
    rw [hg] at hd
    obtain ⟨hc0, hc1⟩ := dgt_t hg
    obtain ⟨hlt, ht, he⟩ := rst_asc hi rfl (by omega) (by omega)
    generalize hc : nx (rst s i) = c at *
    have hn1 := next_s (X := X) τ s (i + 1) hlt 0 0 (e0 + 1)
    have hd1 := digit_s (nx (rst s (i + 1)))
    have hf1 := fail_s (X := X) s (I .i64 ((i + 1 : Nat) : Int)) ((i + 1 : Nat) : Int) 3 (e0 + 1) (by decide)
    have hf2 := fail_s (X := X) s (I .i64 ((i + 1 : Nat) : Int)) i 8 (e0 + 1) (by decide)
    have hf3 := fail_s (X := X) s (I .i64 ((i + 2 : Nat) : Int)) i 8 (e0 + 1) (by decide)
    have hnil := rst_nil (s := s) (i := i + 1) hlt
    have hbe := bk_err (α := Int) (s := s) (e := 8) hi
    rw [he] at hbe
    rw [he, pNum_dig, if_neg (by rw [hg]; decide)]
    by_cases hA : 0 < c - 48 ∧ i + 1 = s.size
    · rw [if_pos ⟨hA.1, hnil.2 hA.2⟩, ← hnil.2 hA.2, bk_err hlt]
      repeat' (first | (refine k_op1 ?_; (first | refine o_sv rfl (by decide) ?_ | (refine k_load ?_; (first | refine o_loadu rfl (upd_get _ (e0, X) _) rfl rfl rfl rfl (by decide) ?_ | refine o_loadu rfl hX rfl rfl rfl rfl (by decide) ?_)) | (refine k_field ?_; (refine o_val (v_field rfl rfl) rfl rfl (by decide) ?_)) | (refine k_bin ?_; (first | refine o_val (v_sub (wi32 (by omega) (by omega))) rfl rfl (by decide) ?_ | refine o_val (v_add (wi64 (by omega) (by omega))) rfl rfl (by decide) ?_)) | (refine k_call ?_; (first | refine o_effu hf1 rfl (upd_get _ (e0, X) _) (by decide) ?_ | refine o_effd hn1 rfl (bk_cons (m := (e0 + 1, X)) (upd_get _ (e0, X) _) (bkT (by repeat (first | exact hT | refine HT.upd ?_ hX0 hX1)))) (by decide) ?_ | refine o_effd hn rfl (bk_cons (m := (e0 + 1, X)) hX (bkT (by repeat (first | exact hT | refine HT.upd ?_ hX0 hX1)))) (by decide) ?_ | refine o_fn hd rfl (by decide) ?_)) | (refine k_store ?_; (refine o_storeu (raw' := pbx s ((i + 1 : Nat) : Int) 0 0) rfl hX rfl rfl rfl rfl rfl rfl ?_)) | (refine k_conv ?_; (refine o_val (v_conv rfl rfl (wi64 (by omega) (by omega))) rfl rfl (by decide) ?_)))) | (refine k_ops ?_; (first | refine o_go (by first | exact .inl rfl | exact .inr ⟨_, _, _, rfl, rfl, rfl⟩) ?_ | refine o_nil ?_ | refine o_no rfl rfl (by decide) ?_ | refine o_casep rfl rfl (fun _ => ?_) (fun _ => ?_))) | (refine k_run ?_; (first | refine r_seq ?_ | refine r_region ?_ | refine r_true rfl ?_ | refine r_false rfl ?_ | refine r_skip ?_ | refine r_tr ?_ | refine r_if rfl (fun _ => ?_) (fun _ => ?_))) | (refine k_tr ?_; (first | (refine kt_end ?_; refine t_end mix (by kernel_rfl) ?_) | refine t_pass rfl rfl (by decide) ?_ | refine t_sv rfl (by first | exact rfl | exact ⟨_, rfl, rfl, rfl⟩) (by decide) ?_ | (refine kt_load ?_; (refine t_loadu (by first | exact rfl | exact ⟨_, rfl, rfl, rfl⟩) rfl (upd_get _ (e0, X) _) rfl rfl rfl rfl (by decide) ?_)) | (refine kt_field ?_; (refine t_val (v_field rfl rfl) (by first | exact rfl | exact ⟨_, rfl, rfl, rfl⟩) rfl rfl (by decide) ?_)) | (refine kt_blt ?_; (refine t_val (v_lens rfl) (by first | exact rfl | exact ⟨_, rfl, rfl, rfl⟩) rfl rfl (by decide) ?_)) | (refine t_either rfl rfl (fun hg => ?_) (fun hg => ?_) <;> simp only [hg] <;> (try simp only [decide_eq_true_eq, decide_eq_false_iff_not, Bool.not_eq_true', Bool.not_eq_false'] at hg)))))
      all_goals try (exfalso; omega)
      all_goals ((repeat rw [upd_upd']); refine r_weak wkP ?_; first | exact r_ret Tryd.func77 _ (res_cell_one rfl rfl rfl rfl rfl rfl rfl) ⟨rfl, rfl⟩ | exact r_ret Tryd.func77 _ (res_two rfl rfl rfl) ⟨rfl, rfl⟩ | exact r_ret Tryd.func77 _ (res_one rfl rfl) ⟨rfl, rfl⟩ | exact r_ret Tryd.func77 _ (res_three rfl rfl rfl rfl) ⟨rfl, rfl⟩)
    · rw [if_neg (fun h => hA ⟨h.1, hnil.1 h.2⟩)]
      by_cases hB : 0 < c - 48 ∧ dgt (nx (rst s (i + 1))) = true
      · rw [if_pos hB]
        rw [hB.2] at hd1
        obtain ⟨hc2, hc3⟩ := dgt_t hB.2
        obtain ⟨hlt1, ht1, he1⟩ := rst_asc (i := i + 1) hlt rfl (by omega) (by omega)
        rw [ht1]
        generalize hc' : nx (rst s (i + 1)) = c' at *
        have hB1 := hB.1
        have hpos : i + 1 < s.size := hlt1
        by_cases hC : 16 < 10 * (c - 48) + (c' - 48) ∨ 10 * (c - 48) + (c' - 48) < k
        · rw [if_pos hC, hbe]
          repeat' (first | (refine k_op1 ?_; (first | refine o_sv rfl (by decide) ?_ | (refine k_load ?_; (first | refine o_loadu rfl (upd_get _ (e0, X) _) rfl rfl rfl rfl (by decide) ?_ | refine o_loadu rfl hX rfl rfl rfl rfl (by decide) ?_)) | (refine k_field ?_; (refine o_val (v_field rfl rfl) rfl rfl (by decide) ?_)) | (refine k_bin ?_; (first | refine o_val (v_sub (wi32 (by omega) (by omega))) rfl rfl (by decide) ?_ | refine o_val (v_add (wi64 (by omega) (by omega))) rfl rfl (by decide) ?_ | refine o_val (v_mul (wi64 (by omega) (by omega))) rfl rfl (by decide) ?_)) | (refine k_call ?_; (first | refine o_effu hf3 rfl (upd_get _ (e0, X) _) (by decide) ?_ | refine o_effd hn1 rfl (bk_cons (m := (e0 + 1, X)) (upd_get _ (e0, X) _) (bkT (by repeat (first | exact hT | refine HT.upd ?_ hX0 hX1)))) (by decide) ?_ | refine o_effd hn rfl (bk_cons (m := (e0 + 1, X)) hX (bkT (by repeat (first | exact hT | refine HT.upd ?_ hX0 hX1)))) (by decide) ?_ | refine o_fn hd rfl (by decide) ?_ | refine o_fn hd1 rfl (by decide) ?_)) | (refine k_store ?_; (first | refine o_storeu (raw' := pbx s ((i + 2 : Nat) : Int) 0 0) rfl (upd_get _ (e0, X) _) rfl rfl rfl rfl rfl rfl ?_ | refine o_storeu (raw' := pbx s ((i + 1 : Nat) : Int) 0 0) rfl hX rfl rfl rfl rfl rfl rfl ?_)) | (refine k_conv ?_; (refine o_val (v_conv rfl rfl (wi64 (by omega) (by omega))) rfl rfl (by decide) ?_)))) | (refine k_ops ?_; (first | refine o_go (by first | exact .inl rfl | exact .inr ⟨_, _, _, rfl, rfl, rfl⟩) ?_ | refine o_nil ?_ | refine o_no rfl rfl (by decide) ?_ | refine o_casep rfl rfl (fun _ => ?_) (fun _ => ?_))) | (refine k_run ?_; (first | refine r_seq ?_ | refine r_region ?_ | refine r_true rfl ?_ | refine r_false rfl ?_ | refine r_skip ?_ | refine r_tr ?_ | refine r_if rfl (fun _ => ?_) (fun _ => ?_))) | (refine k_tr ?_; (first | (refine kt_end ?_; refine t_end mix (by kernel_rfl) ?_) | refine t_pass rfl rfl (by decide) ?_ | refine t_sv rfl (by first | exact rfl | exact ⟨_, rfl, rfl, rfl⟩) (by decide) ?_ | (refine kt_load ?_; (refine t_loadu (by first | exact rfl | exact ⟨_, rfl, rfl, rfl⟩) rfl (upd_get _ (e0, X) _) rfl rfl rfl rfl (by decide) ?_)) | (refine kt_field ?_; (refine t_val (v_field rfl rfl) (by first | exact rfl | exact ⟨_, rfl, rfl, rfl⟩) rfl rfl (by decide) ?_)) | (refine kt_blt ?_; (refine t_val (v_lens rfl) (by first | exact rfl | exact ⟨_, rfl, rfl, rfl⟩) rfl rfl (by decide) ?_)) | (refine t_either rfl rfl (fun hg => ?_) (fun hg => ?_) <;> simp only [hg] <;> (try simp only [decide_eq_true_eq, decide_eq_false_iff_not, Bool.not_eq_true', Bool.not_eq_false'] at hg)))))
          all_goals try (exfalso; omega)
          all_goals ((repeat rw [upd_upd']); refine r_weak wkP ?_; first | exact r_ret Tryd.func77 _ (res_cell_one rfl rfl rfl rfl rfl rfl rfl) ⟨rfl, rfl⟩ | exact r_ret Tryd.func77 _ (res_two rfl rfl rfl) ⟨rfl, rfl⟩ | exact r_ret Tryd.func77 _ (res_one rfl rfl) ⟨rfl, rfl⟩ | exact r_ret Tryd.func77 _ (res_three rfl rfl rfl rfl) ⟨rfl, rfl⟩)
        · rw [if_neg hC, bk_ok (by omega)]
          repeat' (first | (refine k_op1 ?_; (first | refine o_sv rfl (by decide) ?_ | (refine k_load ?_; (first | refine o_loadu rfl (upd_get _ (e0, X) _) rfl rfl rfl rfl (by decide) ?_ | refine o_loadu rfl hX rfl rfl rfl rfl (by decide) ?_)) | (refine k_field ?_; (refine o_val (v_field rfl rfl) rfl rfl (by decide) ?_)) | (refine k_bin ?_; (first | refine o_val (v_sub (wi32 (by omega) (by omega))) rfl rfl (by decide) ?_ | refine o_val (v_add (wi64 (by omega) (by omega))) rfl rfl (by decide) ?_ | refine o_val (v_mul (wi64 (by omega) (by omega))) rfl rfl (by decide) ?_)) | (refine k_call ?_; (first | refine o_effu hf3 rfl (upd_get _ (e0, X) _) (by decide) ?_ | refine o_effd hn1 rfl (bk_cons (m := (e0 + 1, X)) (upd_get _ (e0, X) _) (bkT (by repeat (first | exact hT | refine HT.upd ?_ hX0 hX1)))) (by decide) ?_ | refine o_effd hn rfl (bk_cons (m := (e0 + 1, X)) hX (bkT (by repeat (first | exact hT | refine HT.upd ?_ hX0 hX1)))) (by decide) ?_ | refine o_fn hd rfl (by decide) ?_ | refine o_fn hd1 rfl (by decide) ?_)) | (refine k_store ?_; (first | refine o_storeu (raw' := pbx s ((i + 2 : Nat) : Int) 0 0) rfl (upd_get _ (e0, X) _) rfl rfl rfl rfl rfl rfl ?_ | refine o_storeu (raw' := pbx s ((i + 1 : Nat) : Int) 0 0) rfl hX rfl rfl rfl rfl rfl rfl ?_)) | (refine k_conv ?_; (refine o_val (v_conv rfl rfl (wi64 (by omega) (by omega))) rfl rfl (by decide) ?_)))) | (refine k_ops ?_; (first | refine o_go (by first | exact .inl rfl | exact .inr ⟨_, _, _, rfl, rfl, rfl⟩) ?_ | refine o_nil ?_ | refine o_no rfl rfl (by decide) ?_ | refine o_casep rfl rfl (fun _ => ?_) (fun _ => ?_))) | (refine k_run ?_; (first | refine r_seq ?_ | refine r_region ?_ | refine r_true rfl ?_ | refine r_false rfl ?_ | refine r_skip ?_ | refine r_tr ?_ | refine r_if rfl (fun _ => ?_) (fun _ => ?_))) | (refine k_tr ?_; (first | (refine kt_end ?_; refine t_end mix (by kernel_rfl) ?_) | refine t_pass rfl rfl (by decide) ?_ | refine t_sv rfl (by first | exact rfl | exact ⟨_, rfl, rfl, rfl⟩) (by decide) ?_ | (refine kt_load ?_; (refine t_loadu (by first | exact rfl | exact ⟨_, rfl, rfl, rfl⟩) rfl (upd_get _ (e0, X) _) rfl rfl rfl rfl (by decide) ?_)) | (refine kt_field ?_; (refine t_val (v_field rfl rfl) (by first | exact rfl | exact ⟨_, rfl, rfl, rfl⟩) rfl rfl (by decide) ?_)) | (refine kt_blt ?_; (refine t_val (v_lens rfl) (by first | exact rfl | exact ⟨_, rfl, rfl, rfl⟩) rfl rfl (by decide) ?_)) | (refine t_either rfl rfl (fun hg => ?_) (fun hg => ?_) <;> simp only [hg] <;> (try simp only [decide_eq_true_eq, decide_eq_false_iff_not, Bool.not_eq_true', Bool.not_eq_false'] at hg)))))
          all_goals try (exfalso; omega)
          all_goals ((repeat rw [upd_upd']); first | exact r_ret Tryd.func77 _ (res_cell_one rfl rfl rfl rfl rfl rfl rfl) ⟨rfl, rfl⟩ | exact r_ret Tryd.func77 _ (res_two rfl rfl rfl) ⟨rfl, rfl⟩ | exact r_ret Tryd.func77 _ (res_one rfl rfl) ⟨rfl, rfl⟩ | exact r_ret Tryd.func77 _ (res_three rfl rfl rfl rfl) ⟨rfl, rfl⟩)
      · rw [if_neg hB]
        have hdf : 0 < c - 48 → dgt (nx (rst s (i + 1))) = false := fun h => by
          cases h2 : dgt (nx (rst s (i + 1))) with
          | false => rfl
          | true => exact absurd ⟨h, h2⟩ hB
        have hlx : 0 < c - 48 → i + 1 < s.size := fun h => by
          false_or_by_contra
          exact hA ⟨h, by omega⟩
        by_cases hC : 16 < c - 48 ∨ c - 48 < k
        · rw [if_pos hC, hbe]
          by_cases hz : 0 < c - 48
          · have hdf := hdf hz
            have hlx := hlx hz
            rw [hdf] at hd1
            repeat' (first | (refine k_op1 ?_; (first | refine o_sv rfl (by decide) ?_ | (refine k_load ?_; (first | refine o_loadu rfl (upd_get _ (e0, X) _) rfl rfl rfl rfl (by decide) ?_ | refine o_loadu rfl hX rfl rfl rfl rfl (by decide) ?_)) | (refine k_field ?_; (refine o_val (v_field rfl rfl) rfl rfl (by decide) ?_)) | (refine k_bin ?_; (first | refine o_val (v_sub (wi32 (by omega) (by omega))) rfl rfl (by decide) ?_ | refine o_val (v_add (wi64 (by omega) (by omega))) rfl rfl (by decide) ?_)) | (refine k_call ?_; (first | refine o_effu hf2 rfl (upd_get _ (e0, X) _) (by decide) ?_ | refine o_effd hn1 rfl (bk_cons (m := (e0 + 1, X)) (upd_get _ (e0, X) _) (bkT (by repeat (first | exact hT | refine HT.upd ?_ hX0 hX1)))) (by decide) ?_ | refine o_effd hn rfl (bk_cons (m := (e0 + 1, X)) hX (bkT (by repeat (first | exact hT | refine HT.upd ?_ hX0 hX1)))) (by decide) ?_ | refine o_fn hd rfl (by decide) ?_ | refine o_fn hd1 rfl (by decide) ?_)) | (refine k_store ?_; (refine o_storeu (raw' := pbx s ((i + 1 : Nat) : Int) 0 0) rfl hX rfl rfl rfl rfl rfl rfl ?_)) | (refine k_conv ?_; (refine o_val (v_conv rfl rfl (wi64 (by omega) (by omega))) rfl rfl (by decide) ?_)))) | (refine k_ops ?_; (first | refine o_go (by first | exact .inl rfl | exact .inr ⟨_, _, _, rfl, rfl, rfl⟩) ?_ | refine o_nil ?_ | refine o_no rfl rfl (by decide) ?_ | refine o_casep rfl rfl (fun _ => ?_) (fun _ => ?_))) | (refine k_run ?_; (first | refine r_seq ?_ | refine r_region ?_ | refine r_true rfl ?_ | refine r_false rfl ?_ | refine r_skip ?_ | refine r_tr ?_ | refine r_if rfl (fun _ => ?_) (fun _ => ?_))) | (refine k_tr ?_; (first | (refine kt_end ?_; refine t_end mix (by kernel_rfl) ?_) | refine t_pass rfl rfl (by decide) ?_ | refine t_sv rfl (by first | exact rfl | exact ⟨_, rfl, rfl, rfl⟩) (by decide) ?_ | (refine kt_load ?_; (refine t_loadu (by first | exact rfl | exact ⟨_, rfl, rfl, rfl⟩) rfl (upd_get _ (e0, X) _) rfl rfl rfl rfl (by decide) ?_)) | (refine kt_field ?_; (refine t_val (v_field rfl rfl) (by first | exact rfl | exact ⟨_, rfl, rfl, rfl⟩) rfl rfl (by decide) ?_)) | (refine kt_blt ?_; (refine t_val (v_lens rfl) (by first | exact rfl | exact ⟨_, rfl, rfl, rfl⟩) rfl rfl (by decide) ?_)) | (refine t_either rfl rfl (fun hg => ?_) (fun hg => ?_) <;> simp only [hg] <;> (try simp only [decide_eq_true_eq, decide_eq_false_iff_not, Bool.not_eq_true', Bool.not_eq_false'] at hg)))))
            all_goals try (exfalso; omega)
            all_goals ((repeat rw [upd_upd']); refine r_weak wkP ?_; first | exact r_ret Tryd.func77 _ (res_cell_one rfl rfl rfl rfl rfl rfl rfl) ⟨rfl, rfl⟩ | exact r_ret Tryd.func77 _ (res_two rfl rfl rfl) ⟨rfl, rfl⟩ | exact r_ret Tryd.func77 _ (res_one rfl rfl) ⟨rfl, rfl⟩ | exact r_ret Tryd.func77 _ (res_three rfl rfl rfl rfl) ⟨rfl, rfl⟩)
          · repeat' (first | (refine k_op1 ?_; (first | refine o_sv rfl (by decide) ?_ | (refine k_load ?_; (first | refine o_loadu rfl (upd_get _ (e0, X) _) rfl rfl rfl rfl (by decide) ?_ | refine o_loadu rfl hX rfl rfl rfl rfl (by decide) ?_)) | (refine k_field ?_; (refine o_val (v_field rfl rfl) rfl rfl (by decide) ?_)) | (refine k_bin ?_; (first | refine o_val (v_sub (wi32 (by omega) (by omega))) rfl rfl (by decide) ?_ | refine o_val (v_add (wi64 (by omega) (by omega))) rfl rfl (by decide) ?_ | refine o_val (v_mul (wi64 (by omega) (by omega))) rfl rfl (by decide) ?_)) | (refine k_call ?_; (first | refine o_effu hf2 rfl (upd_get _ (e0, X) _) (by decide) ?_ | refine o_effd hn1 rfl (bk_cons (m := (e0 + 1, X)) (upd_get _ (e0, X) _) (bkT (by repeat (first | exact hT | refine HT.upd ?_ hX0 hX1)))) (by decide) ?_ | refine o_effd hn rfl (bk_cons (m := (e0 + 1, X)) hX (bkT (by repeat (first | exact hT | refine HT.upd ?_ hX0 hX1)))) (by decide) ?_ | refine o_fn hd rfl (by decide) ?_ | refine o_fn hd1 rfl (by decide) ?_)) | (refine k_store ?_; (refine o_storeu (raw' := pbx s ((i + 1 : Nat) : Int) 0 0) rfl hX rfl rfl rfl rfl rfl rfl ?_)) | (refine k_conv ?_; (refine o_val (v_conv rfl rfl (wi64 (by omega) (by omega))) rfl rfl (by decide) ?_)))) | (refine k_ops ?_; (first | refine o_go (by first | exact .inl rfl | exact .inr ⟨_, _, _, rfl, rfl, rfl⟩) ?_ | refine o_nil ?_ | refine o_no rfl rfl (by decide) ?_ | refine o_casep rfl rfl (fun _ => ?_) (fun _ => ?_))) | (refine k_run ?_; (first | refine r_seq ?_ | refine r_region ?_ | refine r_true rfl ?_ | refine r_false rfl ?_ | refine r_skip ?_ | refine r_tr ?_ | refine r_if rfl (fun _ => ?_) (fun _ => ?_) | refine r_cond rfl (fun _ => ?_) (fun _ => ?_))) | (refine k_tr ?_; (first | (refine kt_end ?_; refine t_end mix (by kernel_rfl) ?_) | refine t_pass rfl rfl (by decide) ?_ | refine t_sv rfl (by first | exact rfl | exact ⟨_, rfl, rfl, rfl⟩) (by decide) ?_ | (refine kt_load ?_; (refine t_loadu (by first | exact rfl | exact ⟨_, rfl, rfl, rfl⟩) rfl (upd_get _ (e0, X) _) rfl rfl rfl rfl (by decide) ?_)) | (refine kt_field ?_; (refine t_val (v_field rfl rfl) (by first | exact rfl | exact ⟨_, rfl, rfl, rfl⟩) rfl rfl (by decide) ?_)) | (refine kt_blt ?_; (refine t_val (v_lens rfl) (by first | exact rfl | exact ⟨_, rfl, rfl, rfl⟩) rfl rfl (by decide) ?_)) | (refine t_either rfl rfl (fun hg => ?_) (fun hg => ?_) <;> simp only [hg] <;> (try simp only [decide_eq_true_eq, decide_eq_false_iff_not, Bool.not_eq_true', Bool.not_eq_false'] at hg)))))
            all_goals try (exfalso; omega)
            all_goals ((repeat rw [upd_upd']); refine r_weak wkP ?_; first | exact r_ret Tryd.func77 _ (res_cell_one rfl rfl rfl rfl rfl rfl rfl) ⟨rfl, rfl⟩ | exact r_ret Tryd.func77 _ (res_two rfl rfl rfl) ⟨rfl, rfl⟩ | exact r_ret Tryd.func77 _ (res_one rfl rfl) ⟨rfl, rfl⟩ | exact r_ret Tryd.func77 _ (res_three rfl rfl rfl rfl) ⟨rfl, rfl⟩)
        · rw [if_neg hC, bk_ok (by omega)]
          by_cases hz : 0 < c - 48
          · have hdf := hdf hz
            have hlx := hlx hz
            rw [hdf] at hd1
            repeat' (first | (refine k_op1 ?_; (first | refine o_sv rfl (by decide) ?_ | (refine k_load ?_; (first | refine o_loadu rfl (upd_get _ (e0, X) _) rfl rfl rfl rfl (by decide) ?_ | refine o_loadu rfl hX rfl rfl rfl rfl (by decide) ?_)) | (refine k_field ?_; (refine o_val (v_field rfl rfl) rfl rfl (by decide) ?_)) | (refine k_bin ?_; (first | refine o_val (v_sub (wi32 (by omega) (by omega))) rfl rfl (by decide) ?_ | refine o_val (v_add (wi64 (by omega) (by omega))) rfl rfl (by decide) ?_)) | (refine k_call ?_; (first | refine o_effu hf2 rfl (upd_get _ (e0, X) _) (by decide) ?_ | refine o_effd hn1 rfl (bk_cons (m := (e0 + 1, X)) (upd_get _ (e0, X) _) (bkT (by repeat (first | exact hT | refine HT.upd ?_ hX0 hX1)))) (by decide) ?_ | refine o_effd hn rfl (bk_cons (m := (e0 + 1, X)) hX (bkT (by repeat (first | exact hT | refine HT.upd ?_ hX0 hX1)))) (by decide) ?_ | refine o_fn hd rfl (by decide) ?_ | refine o_fn hd1 rfl (by decide) ?_)) | (refine k_store ?_; (refine o_storeu (raw' := pbx s ((i + 1 : Nat) : Int) 0 0) rfl hX rfl rfl rfl rfl rfl rfl ?_)) | (refine k_conv ?_; (refine o_val (v_conv rfl rfl (wi64 (by omega) (by omega))) rfl rfl (by decide) ?_)))) | (refine k_ops ?_; (first | refine o_go (by first | exact .inl rfl | exact .inr ⟨_, _, _, rfl, rfl, rfl⟩) ?_ | refine o_nil ?_ | refine o_no rfl rfl (by decide) ?_ | refine o_casep rfl rfl (fun _ => ?_) (fun _ => ?_))) | (refine k_run ?_; (first | refine r_seq ?_ | refine r_region ?_ | refine r_true rfl ?_ | refine r_false rfl ?_ | refine r_skip ?_ | refine r_tr ?_ | refine r_if rfl (fun _ => ?_) (fun _ => ?_))) | (refine k_tr ?_; (first | (refine kt_end ?_; refine t_end mix (by kernel_rfl) ?_) | refine t_pass rfl rfl (by decide) ?_ | refine t_sv rfl (by first | exact rfl | exact ⟨_, rfl, rfl, rfl⟩) (by decide) ?_ | (refine kt_load ?_; (refine t_loadu (by first | exact rfl | exact ⟨_, rfl, rfl, rfl⟩) rfl (upd_get _ (e0, X) _) rfl rfl rfl rfl (by decide) ?_)) | (refine kt_field ?_; (refine t_val (v_field rfl rfl) (by first | exact rfl | exact ⟨_, rfl, rfl, rfl⟩) rfl rfl (by decide) ?_)) | (refine kt_blt ?_; (refine t_val (v_lens rfl) (by first | exact rfl | exact ⟨_, rfl, rfl, rfl⟩) rfl rfl (by decide) ?_)) | (refine t_either rfl rfl (fun hg => ?_) (fun hg => ?_) <;> simp only [hg] <;> (try simp only [decide_eq_true_eq, decide_eq_false_iff_not, Bool.not_eq_true', Bool.not_eq_false'] at hg)))))
            all_goals try (exfalso; omega)
            all_goals ((repeat rw [upd_upd']); first | exact r_ret Tryd.func77 _ (res_cell_one rfl rfl rfl rfl rfl rfl rfl) ⟨rfl, rfl⟩ | exact r_ret Tryd.func77 _ (res_two rfl rfl rfl) ⟨rfl, rfl⟩ | exact r_ret Tryd.func77 _ (res_one rfl rfl) ⟨rfl, rfl⟩ | exact r_ret Tryd.func77 _ (res_three rfl rfl rfl rfl) ⟨rfl, rfl⟩)
          · repeat' (first | (refine k_op1 ?_; (first | refine o_sv rfl (by decide) ?_ | (refine k_load ?_; (first | refine o_loadu rfl (upd_get _ (e0, X) _) rfl rfl rfl rfl (by decide) ?_ | refine o_loadu rfl hX rfl rfl rfl rfl (by decide) ?_)) | (refine k_field ?_; (refine o_val (v_field rfl rfl) rfl rfl (by decide) ?_)) | (refine k_bin ?_; (first | refine o_val (v_sub (wi32 (by omega) (by omega))) rfl rfl (by decide) ?_ | refine o_val (v_add (wi64 (by omega) (by omega))) rfl rfl (by decide) ?_ | refine o_val (v_mul (wi64 (by omega) (by omega))) rfl rfl (by decide) ?_)) | (refine k_call ?_; (first | refine o_effu hf2 rfl (upd_get _ (e0, X) _) (by decide) ?_ | refine o_effd hn1 rfl (bk_cons (m := (e0 + 1, X)) (upd_get _ (e0, X) _) (bkT (by repeat (first | exact hT | refine HT.upd ?_ hX0 hX1)))) (by decide) ?_ | refine o_effd hn rfl (bk_cons (m := (e0 + 1, X)) hX (bkT (by repeat (first | exact hT | refine HT.upd ?_ hX0 hX1)))) (by decide) ?_ | refine o_fn hd rfl (by decide) ?_ | refine o_fn hd1 rfl (by decide) ?_)) | (refine k_store ?_; (refine o_storeu (raw' := pbx s ((i + 1 : Nat) : Int) 0 0) rfl hX rfl rfl rfl rfl rfl rfl ?_)) | (refine k_conv ?_; (refine o_val (v_conv rfl rfl (wi64 (by omega) (by omega))) rfl rfl (by decide) ?_)))) | (refine k_ops ?_; (first | refine o_go (by first | exact .inl rfl | exact .inr ⟨_, _, _, rfl, rfl, rfl⟩) ?_ | refine o_nil ?_ | refine o_no rfl rfl (by decide) ?_ | refine o_casep rfl rfl (fun _ => ?_) (fun _ => ?_))) | (refine k_run ?_; (first | refine r_seq ?_ | refine r_region ?_ | refine r_true rfl ?_ | refine r_false rfl ?_ | refine r_skip ?_ | refine r_tr ?_ | refine r_if rfl (fun _ => ?_) (fun _ => ?_) | refine r_cond rfl (fun _ => ?_) (fun _ => ?_))) | (refine k_tr ?_; (first | (refine kt_end ?_; refine t_end mix (by kernel_rfl) ?_) | refine t_pass rfl rfl (by decide) ?_ | refine t_sv rfl (by first | exact rfl | exact ⟨_, rfl, rfl, rfl⟩) (by decide) ?_ | (refine kt_load ?_; (refine t_loadu (by first | exact rfl | exact ⟨_, rfl, rfl, rfl⟩) rfl (upd_get _ (e0, X) _) rfl rfl rfl rfl (by decide) ?_)) | (refine kt_field ?_; (refine t_val (v_field rfl rfl) (by first | exact rfl | exact ⟨_, rfl, rfl, rfl⟩) rfl rfl (by decide) ?_)) | (refine kt_blt ?_; (refine t_val (v_lens rfl) (by first | exact rfl | exact ⟨_, rfl, rfl, rfl⟩) rfl rfl (by decide) ?_)) | (refine t_either rfl rfl (fun hg => ?_) (fun hg => ?_) <;> simp only [hg] <;> (try simp only [decide_eq_true_eq, decide_eq_false_iff_not, Bool.not_eq_true', Bool.not_eq_false'] at hg)))))
            all_goals try (exfalso; omega)
            all_goals ((repeat rw [upd_upd']); first | exact r_ret Tryd.func77 _ (res_cell_one rfl rfl rfl rfl rfl rfl rfl) ⟨rfl, rfl⟩ | exact r_ret Tryd.func77 _ (res_two rfl rfl rfl) ⟨rfl, rfl⟩ | exact r_ret Tryd.func77 _ (res_one rfl rfl) ⟨rfl, rfl⟩ | exact r_ret Tryd.func77 _ (res_three rfl rfl rfl rfl) ⟨rfl, rfl⟩)
end
end Go.Proofs.YtjmbjgecfpggdaaDoor
namespace Go.Proofs.YtjmbjgecfpggdaaDoor
open Go.Ab Go.Rx
set_option maxHeartbeats 20000000
set_option maxRecDepth 100000
set_option linter.unusedVariables false
set_option linter.unusedSimpArgs false
set_option linter.unusedSectionVars false
attribute [local irreducible] Run Ops Op1 Does Val Tr PureF Eff1 NF Rel EffV EffM
theorem pNum_rng {k v : Int} {l r : List U} (h : pNum k l = .ok v r) : k ≤ v ∧ v ≤ 16 := by
  cases l with
  | nil => simp [pNum] at h
  | cons u l =>
    obtain ⟨c, n⟩ := u
    rw [pNum_dig] at h
    split at h
    · simp at h
    split at h
    · simp at h
    split at h
    · split at h
      · simp at h
      · simp only [Rd.ok.injEq] at h; omega
    · split at h
      · simp at h
      · simp only [Rd.ok.injEq] at h; omega
theorem pNum_out {k : Int} {l : List U} : pNum k l ≠ .out := by
  intro h
  cases l with
  | nil => simp [pNum] at h
  | cons u l =>
    obtain ⟨c, n⟩ := u
    rw [pNum_dig] at h
    split at h
    · simp at h
    split at h
    · simp at h
    split at h
    · split at h <;> simp at h
    · split at h <;> simp at h
def rsB : Rd (Int × Int) → PV
  | .ok a _ => .tup [I .i64 a.1, I .i64 a.2, B true]
  | .err _ _ => .tup [I .i64 0, I .i64 0, B false]
  | .out => .any
theorem pNum_at {k v : Int} {s : ByteArray} {i : Nat} {r : List U} (hi : i ≤ s.size) (h : pNum k (rst s i) = .ok v r) : ∃ j, i ≤ j ∧ j ≤ s.size ∧ r = rst s j := by
  have h1 := (pNum_sfx k (rst s i)).1
  rw [h] at h1
  exact rst_sfx s _ i r (Nat.le_refl _) hi h1
section
variable {X : Nat} (hX0 : X ≠ 700) (hX1 : X ≠ 701) (τ : Tab) (s : ByteArray) (hs : s.size ≤ 1000000)
include hX0 hX1 hs
theorem bounds_s (i : Nat) (hi : i ≤ s.size) (e0 : Nat) :
    Eff1 Tryd.prog 65 [.ptr (e0, X) 0] (((e0, X), pbx s i 0 0) :: tabs τ (e0 + 1)) [((e0, X), bkOf s (pBnd (rst s i)))] (rsB (pBnd (rst s i))) := by
  refine eff_of fun H hH => ?_
  have hX : H e0 X = some (pbx s i 0 0) := hH ((e0, X), pbx s i 0 0) (by simp)
  have hT : HT τ (e0 + 1) H := HT.of (bs := [((e0, X), pbx s i 0 0)]) hH
  refine spec_of Tryd.func65 (by kernel_rfl) rfl (by simp) ?_
  dsimp only [Tryd.f65]
  have hm := number_s hX0 hX1 τ s hs 0 (by decide) (by decide) i hi (e0 + 1)
  rcases hp : pNum 0 (rst s i) with ⟨lo, r⟩ | ⟨a, e⟩ | _
  · obtain ⟨j, hj1, hj, rfl⟩ := pNum_at hi hp
    have hlo := pNum_rng hp
    rw [hp, bk_ok hj] at hm
    have hn := next_s (X := X) τ s j hj 0 0 (e0 + 1)
    by_cases hc : nx (rst s j) = 44
    · obtain ⟨hjl, ht, he⟩ := rst_asc hj hc (by decide) (by decide)
      have hn1 := next_s (X := X) τ s (j + 1) hjl 0 0 (e0 + 1)
      by_cases h2 : nx (rst s (j + 1)) = 125
      · have hq : pBnd (rst s i) = .ok (lo, -1) (rst s (j + 1)) := by
          rw [pBnd, hp]; simp only
          rw [if_pos hc, ht, if_pos h2, pEnd, if_pos h2]
        rw [hq, bk_ok hjl]
        repeat' (first | (refine k_op1 ?_; (first | refine o_sv rfl (by decide) ?_ | (refine k_load ?_; (refine o_loadu rfl (upd_get _ (e0, X) _) rfl rfl rfl rfl (by decide) ?_)) | (refine k_field ?_; (refine o_val (v_field rfl rfl) rfl rfl (by decide) ?_)) | (refine k_bin ?_; (refine o_val (v_add (wi64 (by omega) (by omega))) rfl rfl (by decide) ?_)) | (refine k_call ?_; (first | refine o_effut hm rfl hX (bkT (by repeat (first | exact hT | refine HT.upd ?_ hX0 hX1))) (by decide) ?_ | refine o_effd hn1 rfl (bk_cons (m := (e0 + 1, X)) (upd_get _ (e0, X) _) (bkT (by repeat (first | exact hT | refine HT.upd ?_ hX0 hX1)))) (by decide) ?_ | refine o_effd hn rfl (bk_cons (m := (e0 + 1, X)) (upd_get _ (e0, X) _) (bkT (by repeat (first | exact hT | refine HT.upd ?_ hX0 hX1)))) (by decide) ?_)) | (refine k_store ?_; (refine o_storeu (raw' := pbx s ((j + 1 : Nat) : Int) 0 0) rfl (upd_get _ (e0, X) _) rfl rfl rfl rfl rfl rfl ?_)))) | (refine k_ops ?_; (first | refine o_go (by first | exact .inl rfl | exact .inr ⟨_, _, _, rfl, rfl, rfl⟩) ?_ | refine o_nil ?_)) | (refine k_run ?_; (first | refine r_seq ?_ | refine r_region ?_ | refine r_false rfl ?_ | refine r_skip ?_ | refine r_if rfl (fun _ => ?_) (fun _ => ?_) | refine r_ifn rfl (fun _ => ?_) (fun _ => ?_))))
        all_goals try (exfalso; omega)
        all_goals ((repeat rw [upd_upd']); first | exact r_ret Tryd.func65 _ (res_cell_one rfl rfl rfl rfl rfl rfl rfl) ⟨rfl, rfl⟩ | exact r_ret Tryd.func65 _ (res_two rfl rfl rfl) ⟨rfl, rfl⟩ | exact r_ret Tryd.func65 _ (res_one rfl rfl) ⟨rfl, rfl⟩ | exact r_ret Tryd.func65 _ (res_three rfl rfl rfl rfl) ⟨rfl, rfl⟩)
      · have hm2 := number_s hX0 hX1 τ s hs lo hlo.1 hlo.2 (j + 1) hjl (e0 + 1)
        rcases hp2 : pNum lo (rst s (j + 1)) with ⟨hi', r⟩ | ⟨a, e⟩ | _
        · obtain ⟨m, hm1, hmm, rfl⟩ := pNum_at (by omega) hp2
          have hhi := pNum_rng hp2
          rw [hp2, bk_ok hmm] at hm2
          have hn2 := next_s (X := X) τ s m hmm 0 0 (e0 + 1)
          have hf := fail_s (X := X) s (I .i64 (m : Nat)) (m : Nat) 3 (e0 + 1) (by decide)
          have hq : pBnd (rst s i) = pEnd lo hi' (rst s m) := by
            rw [pBnd, hp]; simp only
            rw [if_pos hc, ht, if_neg h2, hp2]
          rw [hq, pEnd]
          by_cases h3 : nx (rst s m) = 125
          · rw [if_pos h3, bk_ok hmm]
            repeat' (first | (refine k_op1 ?_; (first | refine o_sv rfl (by decide) ?_ | (refine k_load ?_; (refine o_loadu rfl (upd_get _ (e0, X) _) rfl rfl rfl rfl (by decide) ?_)) | (refine k_field ?_; (refine o_val (v_field rfl rfl) rfl rfl (by decide) ?_)) | (refine k_bin ?_; (refine o_val (v_add (wi64 (by omega) (by omega))) rfl rfl (by decide) ?_)) | (refine k_call ?_; (first | refine o_effu hf rfl (upd_get _ (e0, X) _) (by decide) ?_ | refine o_effut hm2 rfl (upd_get _ (e0, X) _) (bkT (by repeat (first | exact hT | refine HT.upd ?_ hX0 hX1))) (by decide) ?_ | refine o_effut hm rfl hX (bkT (by repeat (first | exact hT | refine HT.upd ?_ hX0 hX1))) (by decide) ?_ | refine o_effd hn2 rfl (bk_cons (m := (e0 + 1, X)) (upd_get _ (e0, X) _) (bkT (by repeat (first | exact hT | refine HT.upd ?_ hX0 hX1)))) (by decide) ?_ | refine o_effd hn1 rfl (bk_cons (m := (e0 + 1, X)) (upd_get _ (e0, X) _) (bkT (by repeat (first | exact hT | refine HT.upd ?_ hX0 hX1)))) (by decide) ?_ | refine o_effd hn rfl (bk_cons (m := (e0 + 1, X)) (upd_get _ (e0, X) _) (bkT (by repeat (first | exact hT | refine HT.upd ?_ hX0 hX1)))) (by decide) ?_)) | (refine k_store ?_; (refine o_storeu (raw' := pbx s ((j + 1 : Nat) : Int) 0 0) rfl (upd_get _ (e0, X) _) rfl rfl rfl rfl rfl rfl ?_)))) | (refine k_ops ?_; (first | refine o_go (by first | exact .inl rfl | exact .inr ⟨_, _, _, rfl, rfl, rfl⟩) ?_ | refine o_nil ?_)) | (refine k_run ?_; (first | refine r_seq ?_ | refine r_region ?_ | refine r_false rfl ?_ | refine r_skip ?_ | refine r_if rfl (fun _ => ?_) (fun _ => ?_) | refine r_ifn rfl (fun _ => ?_) (fun _ => ?_))))
            all_goals try (exfalso; omega)
            all_goals ((repeat rw [upd_upd']); first | exact r_ret Tryd.func65 _ (res_cell_one rfl rfl rfl rfl rfl rfl rfl) ⟨rfl, rfl⟩ | exact r_ret Tryd.func65 _ (res_two rfl rfl rfl) ⟨rfl, rfl⟩ | exact r_ret Tryd.func65 _ (res_one rfl rfl) ⟨rfl, rfl⟩ | exact r_ret Tryd.func65 _ (res_three rfl rfl rfl rfl) ⟨rfl, rfl⟩)
          · rw [if_neg h3, bk_err hmm]
            repeat' (first | (refine k_op1 ?_; (first | refine o_sv rfl (by decide) ?_ | (refine k_load ?_; (refine o_loadu rfl (upd_get _ (e0, X) _) rfl rfl rfl rfl (by decide) ?_)) | (refine k_field ?_; (refine o_val (v_field rfl rfl) rfl rfl (by decide) ?_)) | (refine k_bin ?_; (refine o_val (v_add (wi64 (by omega) (by omega))) rfl rfl (by decide) ?_)) | (refine k_call ?_; (first | refine o_effu hf rfl (upd_get _ (e0, X) _) (by decide) ?_ | refine o_effut hm2 rfl (upd_get _ (e0, X) _) (bkT (by repeat (first | exact hT | refine HT.upd ?_ hX0 hX1))) (by decide) ?_ | refine o_effut hm rfl hX (bkT (by repeat (first | exact hT | refine HT.upd ?_ hX0 hX1))) (by decide) ?_ | refine o_effd hn2 rfl (bk_cons (m := (e0 + 1, X)) (upd_get _ (e0, X) _) (bkT (by repeat (first | exact hT | refine HT.upd ?_ hX0 hX1)))) (by decide) ?_ | refine o_effd hn1 rfl (bk_cons (m := (e0 + 1, X)) (upd_get _ (e0, X) _) (bkT (by repeat (first | exact hT | refine HT.upd ?_ hX0 hX1)))) (by decide) ?_ | refine o_effd hn rfl (bk_cons (m := (e0 + 1, X)) (upd_get _ (e0, X) _) (bkT (by repeat (first | exact hT | refine HT.upd ?_ hX0 hX1)))) (by decide) ?_)) | (refine k_store ?_; (refine o_storeu (raw' := pbx s ((j + 1 : Nat) : Int) 0 0) rfl (upd_get _ (e0, X) _) rfl rfl rfl rfl rfl rfl ?_)))) | (refine k_ops ?_; (first | refine o_go (by first | exact .inl rfl | exact .inr ⟨_, _, _, rfl, rfl, rfl⟩) ?_ | refine o_nil ?_)) | (refine k_run ?_; (first | refine r_seq ?_ | refine r_region ?_ | refine r_false rfl ?_ | refine r_skip ?_ | refine r_if rfl (fun _ => ?_) (fun _ => ?_) | refine r_ifn rfl (fun _ => ?_) (fun _ => ?_))))
            all_goals try (exfalso; omega)
            all_goals ((repeat rw [upd_upd']); refine r_weak wkP ?_; first | exact r_ret Tryd.func65 _ (res_cell_one rfl rfl rfl rfl rfl rfl rfl) ⟨rfl, rfl⟩ | exact r_ret Tryd.func65 _ (res_two rfl rfl rfl) ⟨rfl, rfl⟩ | exact r_ret Tryd.func65 _ (res_one rfl rfl) ⟨rfl, rfl⟩ | exact r_ret Tryd.func65 _ (res_three rfl rfl rfl rfl) ⟨rfl, rfl⟩)
        · rw [hp2] at hm2
          have hq : pBnd (rst s i) = .err a e := by
            rw [pBnd, hp]; simp only
            rw [if_pos hc, ht, if_neg h2, hp2]
          rw [hq]
          repeat' (first | (refine k_op1 ?_; (first | refine o_sv rfl (by decide) ?_ | (refine k_load ?_; (refine o_loadu rfl (upd_get _ (e0, X) _) rfl rfl rfl rfl (by decide) ?_)) | (refine k_field ?_; (refine o_val (v_field rfl rfl) rfl rfl (by decide) ?_)) | (refine k_bin ?_; (refine o_val (v_add (wi64 (by omega) (by omega))) rfl rfl (by decide) ?_)) | (refine k_call ?_; (first | refine o_effut hm2 rfl (upd_get _ (e0, X) _) (bkT (by repeat (first | exact hT | refine HT.upd ?_ hX0 hX1))) (by decide) ?_ | refine o_effut hm rfl hX (bkT (by repeat (first | exact hT | refine HT.upd ?_ hX0 hX1))) (by decide) ?_ | refine o_effd hn1 rfl (bk_cons (m := (e0 + 1, X)) (upd_get _ (e0, X) _) (bkT (by repeat (first | exact hT | refine HT.upd ?_ hX0 hX1)))) (by decide) ?_ | refine o_effd hn rfl (bk_cons (m := (e0 + 1, X)) (upd_get _ (e0, X) _) (bkT (by repeat (first | exact hT | refine HT.upd ?_ hX0 hX1)))) (by decide) ?_)) | (refine k_store ?_; (refine o_storeu (raw' := pbx s ((j + 1 : Nat) : Int) 0 0) rfl (upd_get _ (e0, X) _) rfl rfl rfl rfl rfl rfl ?_)))) | (refine k_ops ?_; (first | refine o_go (by first | exact .inl rfl | exact .inr ⟨_, _, _, rfl, rfl, rfl⟩) ?_ | refine o_nil ?_)) | (refine k_run ?_; (first | refine r_seq ?_ | refine r_region ?_ | refine r_true rfl ?_ | refine r_false rfl ?_ | refine r_skip ?_ | refine r_if rfl (fun _ => ?_) (fun _ => ?_) | refine r_ifn rfl (fun _ => ?_) (fun _ => ?_))))
          all_goals try (exfalso; omega)
          all_goals ((repeat rw [upd_upd']); first | exact r_ret Tryd.func65 _ (res_cell_one rfl rfl rfl rfl rfl rfl rfl) ⟨rfl, rfl⟩ | exact r_ret Tryd.func65 _ (res_two rfl rfl rfl) ⟨rfl, rfl⟩ | exact r_ret Tryd.func65 _ (res_one rfl rfl) ⟨rfl, rfl⟩ | exact r_ret Tryd.func65 _ (res_three rfl rfl rfl rfl) ⟨rfl, rfl⟩)
        · exact absurd hp2 pNum_out
    · have hf := fail_s (X := X) s (I .i64 (j : Nat)) (j : Nat) 3 (e0 + 1) (by decide)
      have hq : pBnd (rst s i) = pEnd lo lo (rst s j) := by
        rw [pBnd, hp]; simp only
        rw [if_neg hc]
      rw [hq, pEnd]
      by_cases h3 : nx (rst s j) = 125
      · rw [if_pos h3, bk_ok hj]
        repeat' (first | (refine k_op1 ?_; (first | refine o_sv rfl (by decide) ?_ | (refine k_load ?_; (refine o_loadu rfl (upd_get _ (e0, X) _) rfl rfl rfl rfl (by decide) ?_)) | (refine k_field ?_; (refine o_val (v_field rfl rfl) rfl rfl (by decide) ?_)) | (refine k_bin ?_; (refine o_val (v_add (wi64 (by omega) (by omega))) rfl rfl (by decide) ?_)) | (refine k_call ?_; (first | refine o_effu hf rfl (upd_get _ (e0, X) _) (by decide) ?_ | refine o_effut hm rfl hX (bkT (by repeat (first | exact hT | refine HT.upd ?_ hX0 hX1))) (by decide) ?_ | refine o_effd hn rfl (bk_cons (m := (e0 + 1, X)) (upd_get _ (e0, X) _) (bkT (by repeat (first | exact hT | refine HT.upd ?_ hX0 hX1)))) (by decide) ?_)))) | (refine k_ops ?_; (first | refine o_go (by first | exact .inl rfl | exact .inr ⟨_, _, _, rfl, rfl, rfl⟩) ?_ | refine o_nil ?_)) | (refine k_run ?_; (first | refine r_seq ?_ | refine r_region ?_ | refine r_false rfl ?_ | refine r_skip ?_ | refine r_if rfl (fun _ => ?_) (fun _ => ?_) | refine r_ifn rfl (fun _ => ?_) (fun _ => ?_))))
        all_goals try (exfalso; omega)
        all_goals ((repeat rw [upd_upd']); first | exact r_ret Tryd.func65 _ (res_cell_one rfl rfl rfl rfl rfl rfl rfl) ⟨rfl, rfl⟩ | exact r_ret Tryd.func65 _ (res_two rfl rfl rfl) ⟨rfl, rfl⟩ | exact r_ret Tryd.func65 _ (res_one rfl rfl) ⟨rfl, rfl⟩ | exact r_ret Tryd.func65 _ (res_three rfl rfl rfl rfl) ⟨rfl, rfl⟩)
      · rw [if_neg h3, bk_err hj]
        repeat' (first | (refine k_op1 ?_; (first | refine o_sv rfl (by decide) ?_ | (refine k_load ?_; (refine o_loadu rfl (upd_get _ (e0, X) _) rfl rfl rfl rfl (by decide) ?_)) | (refine k_field ?_; (refine o_val (v_field rfl rfl) rfl rfl (by decide) ?_)) | (refine k_bin ?_; (refine o_val (v_add (wi64 (by omega) (by omega))) rfl rfl (by decide) ?_)) | (refine k_call ?_; (first | refine o_effu hf rfl (upd_get _ (e0, X) _) (by decide) ?_ | refine o_effut hm rfl hX (bkT (by repeat (first | exact hT | refine HT.upd ?_ hX0 hX1))) (by decide) ?_ | refine o_effd hn rfl (bk_cons (m := (e0 + 1, X)) (upd_get _ (e0, X) _) (bkT (by repeat (first | exact hT | refine HT.upd ?_ hX0 hX1)))) (by decide) ?_)))) | (refine k_ops ?_; (first | refine o_go (by first | exact .inl rfl | exact .inr ⟨_, _, _, rfl, rfl, rfl⟩) ?_ | refine o_nil ?_)) | (refine k_run ?_; (first | refine r_seq ?_ | refine r_region ?_ | refine r_false rfl ?_ | refine r_skip ?_ | refine r_if rfl (fun _ => ?_) (fun _ => ?_) | refine r_ifn rfl (fun _ => ?_) (fun _ => ?_))))
        all_goals try (exfalso; omega)
        all_goals ((repeat rw [upd_upd']); refine r_weak wkP ?_; first | exact r_ret Tryd.func65 _ (res_cell_one rfl rfl rfl rfl rfl rfl rfl) ⟨rfl, rfl⟩ | exact r_ret Tryd.func65 _ (res_two rfl rfl rfl) ⟨rfl, rfl⟩ | exact r_ret Tryd.func65 _ (res_one rfl rfl) ⟨rfl, rfl⟩ | exact r_ret Tryd.func65 _ (res_three rfl rfl rfl rfl) ⟨rfl, rfl⟩)
  · rw [hp] at hm
    have hq : pBnd (rst s i) = .err a e := by
      rw [pBnd, hp]
    rw [hq]
    repeat' (first | (refine k_op1 ?_; (first | refine o_sv rfl (by decide) ?_ | (refine k_call ?_; (refine o_effut hm rfl hX (bkT (by repeat (first | exact hT | refine HT.upd ?_ hX0 hX1))) (by decide) ?_)))) | (refine k_ops ?_; (first | refine o_go (by first | exact .inl rfl | exact .inr ⟨_, _, _, rfl, rfl, rfl⟩) ?_ | refine o_nil ?_)) | (refine k_run ?_; (first | refine r_seq ?_ | refine r_region ?_ | refine r_true rfl ?_)))
    all_goals try (exfalso; omega)
    all_goals ((repeat rw [upd_upd']); first | exact r_ret Tryd.func65 _ (res_cell_one rfl rfl rfl rfl rfl rfl rfl) ⟨rfl, rfl⟩ | exact r_ret Tryd.func65 _ (res_two rfl rfl rfl) ⟨rfl, rfl⟩ | exact r_ret Tryd.func65 _ (res_one rfl rfl) ⟨rfl, rfl⟩ | exact r_ret Tryd.func65 _ (res_three rfl rfl rfl rfl) ⟨rfl, rfl⟩)
  · exact absurd hp pNum_out
end
end Go.Proofs.YtjmbjgecfpggdaaDoor
