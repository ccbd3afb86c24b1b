/- A law holds for every input; no condition. -/
import Derived.Test.YtlgdilkmcfpjjaaWp
import Derived.Test.YtlgdilkmcfpjjaaWq
set_option linter.all false
set_option linter.unusedVariables false
set_option linter.unusedSimpArgs false
namespace Go.Proofs.Ytlgdilkmcfpjjaa
open Go.Ab Go.Srt
set_option linter.unusedVariables false
set_option linter.unusedSimpArgs false
set_option maxRecDepth 100000

/-! ### bits written and read again -/
def bq (x : Int) (i : Nat) : Bool := !decide (andV .u8 x (shrV .u8 128 ((i : Nat) : Int)) = 0)
theorem set_tab : ∀ (x : Fin 256) (i j : Fin 8), bq (orV .u8 ((x.1 : Nat) : Int) (shrV .u8 128 ((j.1 : Nat) : Int))) i.1 = (decide (i.1 = j.1) || bq ((x.1 : Nat) : Int) i.1) := by decide +kernel
theorem set_rng : ∀ (x : Fin 256) (j : Fin 8), 0 ≤ orV .u8 ((x.1 : Nat) : Int) (shrV .u8 128 ((j.1 : Nat) : Int)) ∧ orV .u8 ((x.1 : Nat) : Int) (shrV .u8 128 ((j.1 : Nat) : Int)) < 256 := by decide +kernel
theorem zero_tab : ∀ i : Fin 8, bq 0 i.1 = false := by decide +kernel
def Byt (b : List Int) : Prop := ∀ x ∈ b, 0 ≤ x ∧ x < 256
theorem byt_getD {b : List Int} (h : Byt b) (i : Nat) : 0 ≤ b.getD i 0 ∧ b.getD i 0 < 256 := by
  rw [List.getD]
  cases hb : b[i]? with
  | none => simp
  | some x => exact h x (List.mem_of_getElem? hb)
theorem ubit_eq (b : List Int) (i : Nat) : ubit b i = bq (b.getD (i / 8) 0) (i % 8) := rfl
theorem setb_byt {b : List Int} (h : Byt b) (n : Nat) : Byt (setb b n) := fun x hx => by
  rw [setb] at hx
  rcases List.mem_or_eq_of_mem_set hx with hx | rfl
  · exact h x hx
  · have hg := byt_getD h (n / 8)
    have := set_rng ⟨(b.getD (n / 8) 0).toNat, by omega⟩ ⟨n % 8, by omega⟩
    simp only at this
    rw [show (((b.getD (n / 8) 0).toNat : Nat) : Int) = b.getD (n / 8) 0 by omega] at this
    exact this
theorem ubit_setb {b : List Int} (h : Byt b) {n : Nat} (hn : n / 8 < b.length) (i : Nat) : ubit (setb b n) i = (decide (i = n) || ubit b i) := by
  rw [ubit_eq, ubit_eq, setb]
  by_cases hi : i / 8 = n / 8
  · rw [hi, List.getD, List.getElem?_set_self hn, Option.getD_some]
    have hg := byt_getD h (n / 8)
    have := set_tab ⟨(b.getD (n / 8) 0).toNat, by omega⟩ ⟨i % 8, by omega⟩ ⟨n % 8, by omega⟩
    simp only at this
    rw [show (((b.getD (n / 8) 0).toNat : Nat) : Int) = b.getD (n / 8) 0 by omega] at this
    rw [this]
    congr 1
    exact decide_eq_decide.2 ⟨fun h => by omega, fun h => by omega⟩
  · rw [List.getD, List.getElem?_set_ne (by omega), ← List.getD]
    rw [decide_eq_false (by omega), Bool.false_or]
theorem ubit_none {b : List Int} {i : Nat} (h : b.length ≤ i / 8) : ubit b i = false := by
  rw [ubit_eq, List.getD, List.getElem?_eq_none h, Option.getD_none]
  exact zero_tab ⟨i % 8, by omega⟩
theorem ubit_zero (b : List Int) (i : Nat) : ubit (b ++ [0]) i = ubit b i := by
  rw [ubit_eq, ubit_eq, List.getD, List.getD]
  by_cases h : i / 8 < b.length
  · rw [List.getElem?_append_left h]
  · rw [List.getElem?_append_right (by omega), List.getElem?_eq_none (l := b) (by omega)]
    by_cases h' : i / 8 - b.length = 0
    · rw [h']; rfl
    · rw [List.getElem?_eq_none (by simp; omega)]
theorem pstep_bits {b : List Int} {n : Nat} (x : Bool) (h : Byt b) (hl : b.length = (n + 7) / 8) (h0 : ∀ i, n ≤ i → ubit b i = false) :
    Byt (pstep b n x) ∧ (∀ i, ubit (pstep b n x) i = if i = n then x else ubit b i) ∧ ∀ i, n + 1 ≤ i → ubit (pstep b n x) i = false := by
  obtain ⟨c, hc⟩ : ∃ c, (if n % 8 = 0 then b ++ [0] else b) = c := ⟨_, rfl⟩
  have hcb : Byt c := by
    rw [← hc]; split
    · intro y hy
      rw [List.mem_append, List.mem_singleton] at hy
      rcases hy with hy | rfl
      · exact h y hy
      · omega
    · exact h
  have hcu : ∀ i, ubit c i = ubit b i := fun i => by rw [← hc]; split; exact ubit_zero b i; rfl
  have hcl : n / 8 < c.length := by
    rw [← hc]; split
    · rw [List.length_append, List.length_singleton]; omega
    · omega
  rw [pstep, hc]
  cases x with
  | true =>
    simp only [if_true]
    refine ⟨setb_byt hcb n, fun i => ?_, fun i hi => ?_⟩
    · rw [ubit_setb hcb hcl, hcu]
      by_cases hin : i = n
      · rw [decide_eq_true hin, if_pos hin, Bool.true_or]
      · rw [decide_eq_false hin, if_neg hin, Bool.false_or]
    · rw [ubit_setb hcb hcl, hcu, h0 i (by omega), decide_eq_false (by omega)]; rfl
  | false =>
    simp only [Bool.false_eq_true, if_false]
    refine ⟨hcb, fun i => ?_, fun i hi => by rw [hcu]; exact h0 i (by omega)⟩
    rw [hcu]; split
    · rename_i h; exact h0 i (by omega)
    · rfl
theorem pbs_bits : ∀ (B : List Bool) (b : List Int) (n : Nat), Byt b → b.length = (n + 7) / 8 → (∀ i, n ≤ i → ubit b i = false) → Byt (pbs b n B) ∧ ∀ i, ubit (pbs b n B) i = if i < n then ubit b i else B.getD (i - n) false
  | [], b, n, h, hl, h0 => ⟨h, fun i => by
    rw [pbs]; split
    · rfl
    · rw [h0 i (by omega)]; rfl⟩
  | x :: B, b, n, h, hl, h0 => by
    obtain ⟨h1, h2, h3⟩ := pstep_bits x h hl h0
    obtain ⟨h4, h5⟩ := pbs_bits B (pstep b n x) (n + 1) h1 (pstep_len b n x hl) h3
    rw [pbs]
    refine ⟨h4, fun i => ?_⟩
    rw [h5 i, h2 i]
    by_cases hi : i < n
    · rw [if_pos (by omega), if_neg (by omega), if_pos hi]
    · rw [if_neg (show ¬ i < n from hi)]
      by_cases hin : i = n
      · subst hin; rw [if_pos (by omega), if_pos rfl, Nat.sub_self]; rfl
      · rw [if_neg (by omega), show i - n = i - (n + 1) + 1 by omega]; rfl
theorem unpk_pack (B : List Bool) : unpk (pbs [] 0 B) B.length = B ∧ Byt (pbs [] 0 B) := by
  obtain ⟨h1, h2⟩ := pbs_bits B [] 0 (fun x hx => by simp at hx) rfl (fun i _ => ubit_none (by simp))
  refine ⟨List.ext_getElem? fun i => ?_, h1⟩
  rw [unpk, List.getElem?_map]
  by_cases hi : i < B.length
  · rw [List.getElem?_range hi, Option.map_some, h2 i, if_neg (by omega), Nat.sub_zero, List.getD, List.getElem?_eq_getElem hi]; rfl
  · rw [List.getElem?_eq_none (by simpa using hi), List.getElem?_eq_none (by omega)]; rfl

/-! ### a symbol's code read -/
theorem bit0_of {c : Int} (h0 : 0 ≤ c) (h1 : c < 65536) : bit0 c = decide (c % 2 = 1) := by
  obtain ⟨n, rfl⟩ : ∃ n : Nat, c = n := ⟨c.toNat, by omega⟩
  rw [bit0, andV]
  have e1 : (BitVec.ofInt IntKind.u64.bits ((n : Nat) : Int)).toNat = n := by
    rw [BitVec.ofInt_natCast, BitVec.toNat_ofNat]; exact Nat.mod_eq_of_lt (by show n < 2 ^ 64; omega)
  have e2 : (BitVec.ofInt IntKind.u64.bits (1 : Int)).toNat = 1 := rfl
  rw [BitVec.toNat_and, e1, e2, show (1 : Nat) = 2 ^ 1 - 1 from rfl, Nat.and_two_pow_sub_one_eq_mod]
  rw [wu64 (by omega) (by omega)]
  exact decide_eq_decide.2 ⟨fun h => by omega, fun h => by omega⟩
theorem lowB_get (c : Int) : ∀ (k m : Nat), m < k → (lowB c k)[m]? = some (bit0 (shrV .u64 c ((k - m - 1 : Nat) : Int)))
  | 0, m, h => by omega
  | k + 1, 0, h => by rw [lowB]; rfl
  | k + 1, m + 1, h => by rw [lowB, List.getElem?_cons_succ, lowB_get c k m (by omega)]; congr 5; omega
theorem sym_reads {l : List Int} (hv : validH l = true) {s k : Nat} {c : Int} (hs : l[s]? = some (k : Int)) (hk : 1 ≤ k) (hc : (codesH l)[s]? = some c) (L : List Bool) (o : Nat) (hL : ∀ m, m < k → L[o + m]? = (lowB c k)[m]?) : ∀ (d m f : Nat), m + d = k → 1 ≤ d → d ≤ f →
    rsym l (codesH l) L f (o + m) (c / ((2 ^ d : Nat) : Int)) m = (o + k, (s : Int), 0)
  | 0, m, f, _, h, _ => by omega
  | d + 1, m, 0, _, _, h => by omega
  | d + 1, m, f + 1, hmd, h1, hf => by
    obtain ⟨hl1, hr, _⟩ := validH_ok hv
    have hkr := hr k (List.mem_of_getElem? hs)
    obtain ⟨c', e1, e2, e3⟩ := code_fits hv (mem_ordL hs (by omega))
    rw [hc] at e1
    obtain rfl : c = c' := by simpa using e1
    rw [show l.getD s 0 = k by simp [List.getD, hs], Int.toNat_natCast] at e3
    have h2k : (2 : Int) ^ k ≤ 32768 := (pow_up (d := (k : Int)) (by omega)).2
    have hg := hL m (by omega)
    rw [lowB_get c k m (by omega), show k - m - 1 = d by omega, shr_d e2 (by omega)] at hg
    have hPd := pow_pos' d
    have hq0 : 0 ≤ c / ((2 ^ d : Nat) : Int) := Int.ediv_nonneg e2 (by omega)
    have hq1 : c / ((2 ^ d : Nat) : Int) ≤ c := Int.ediv_le_self _ e2
    rw [bit0_of hq0 (by omega)] at hg
    have hol : o + m < L.length := (List.getElem?_eq_some_iff.1 hg).1
    have hw : (c / ((2 ^ (d + 1) : Nat) : Int) * 2 + if L.getD (o + m) false = true then 1 else 0) = c / ((2 ^ d : Nat) : Int) := by
      rw [List.getD, hg, Option.getD_some, show ((2 ^ (d + 1) : Nat) : Int) = ((2 ^ d : Nat) : Int) * 2 by rw [Nat.pow_succ]; simp, ← Int.ediv_ediv_of_nonneg (by omega)]
      simp only [decide_eq_true_eq]
      split <;> omega
    rw [rsym, if_neg (by omega)]
    simp only
    rw [hw]
    obtain ⟨w, hww⟩ : ∃ w, c / ((2 ^ d : Nat) : Int) = w := ⟨_, rfl⟩
    have hshr : shrV .u64 c ((k : Int) - ((m + 1 : Nat) : Int)) = w := by rw [show (k : Int) - ((m + 1 : Nat) : Int) = (d : Nat) by omega, shr_d e2 (by omega), hww]
    rw [hww]
    have hal : (rsc w ((m + 1 : Nat) : Int) (codesH l) l 0 (-1) false).2 = true := (rsc_alive_iff _ _ _ _ _ _ _).2 (.inr ⟨s, k, hs, by omega, by rw [Nat.zero_add, List.getD, hc, Option.getD_some]; exact hshr⟩)
    rw [if_neg (by rw [hal]; simp)]
    have hcl : (codesH l).length = l.length := by rw [codesH, cl_len, List.length_replicate]
    have other : ∀ j : Nat, l[j]? = some ((m + 1 : Nat) : Int) → (codesH l).getD (0 + j) 0 = w → j = s := fun j hj hcj => by
      by_cases hjs : j = s
      · exact hjs
      exfalso
      have hjl := (List.getElem?_eq_some_iff.1 hj).1
      obtain ⟨cj, hcj'⟩ : ∃ cj, (codesH l)[j]? = some cj := ⟨_, List.getElem?_eq_getElem (by omega)⟩
      rw [Nat.zero_add, List.getD, hcj', Option.getD_some] at hcj
      have := (prefix_free hv hjs hj hs (by omega) (by omega) hcj' hc).1
      rw [hshr] at this
      exact this hcj.symm
    by_cases hd0 : d = 0
    · subst hd0
      have hkm : k = m + 1 := by omega
      have hone := rsc_one w ((m + 1 : Nat) : Int) (codesH l) l 0 (-1) false s (by rw [hs, hkm]) (by rw [Nat.zero_add, List.getD, hc, Option.getD_some, ← hww]; simp) other
      rw [hone, Nat.zero_add, if_neg (by omega), hkm, Nat.add_assoc]
    · have hnone := rsc_none w ((m + 1 : Nat) : Int) (codesH l) l 0 (-1) false fun j hj hcj => by
        have := other j hj hcj
        subst this
        rw [hs] at hj
        simp at hj; omega
      rw [hnone, if_pos (by omega), ← hww]
      exact sym_reads hv hs hk hc L o hL d (m + 1) f (by omega) (by omega) (by omega)
theorem sym_read {l : List Int} (hv : validH l = true) {s k : Nat} {c : Int} (hs : l[s]? = some (k : Int)) (hk : 1 ≤ k) (hc : (codesH l)[s]? = some c) (L : List Bool) (o : Nat) (hL : ∀ m, m < k → L[o + m]? = (lowB c k)[m]?) :
    rsym l (codesH l) L 20 o 0 0 = (o + k, (s : Int), 0) := by
  have hkr := (validH_ok hv).2.1 k (List.mem_of_getElem? hs)
  obtain ⟨c', e1, e2, e3⟩ := code_fits hv (mem_ordL hs (by omega))
  rw [hc] at e1
  obtain rfl : c = c' := by simpa using e1
  rw [show l.getD s 0 = k by simp [List.getD, hs], Int.toNat_natCast] at e3
  have := sym_reads hv hs hk hc L o hL k 0 20 (by omega) hk (by omega)
  rw [Int.ediv_eq_zero_of_lt e2 (by rw [pow_int]; omega)] at this
  exact this

/-! ### all symbols -/
def encOf (l cs : List Int) : List Int → List Bool
  | [] => []
  | s :: r => lowB (cs.getD s.toNat 0) (l.getD s.toNat 0).toNat ++ encOf l cs r
def GoodS (l : List Int) (syms : List Int) : Prop := ∀ s ∈ syms, 0 ≤ s ∧ ∃ k : Nat, l[s.toNat]? = some (k : Int) ∧ 1 ≤ k
theorem encB_of (l cs : List Int) : ∀ (syms : List Int) (acc : List Bool), GoodS l syms → encB l cs syms acc = some (acc ++ encOf l cs syms)
  | [], acc, h => by simp [encB, encOf]
  | s :: r, acc, h => by
    obtain ⟨h0, k, hk, hk1⟩ := h s (by simp)
    have hsl := (List.getElem?_eq_some_iff.1 hk).1
    have hg : l.getD s.toNat 0 = k := by simp [List.getD, hk]
    rw [encB, if_neg (by rw [hg]; omega), encB_of l cs r _ fun x hx => h x (by simp [hx]), encOf, List.append_assoc]
theorem dec_reads {l : List Int} (hv : validH l = true) (L : List Bool) : ∀ (syms : List Int) (o : Nat) (acc : List Int), GoodS l syms → (∀ m, m < (encOf l (codesH l) syms).length → L[o + m]? = (encOf l (codesH l) syms)[m]?) →
    rdec l (codesH l) L syms.length o acc = (acc ++ syms, 0, o + (encOf l (codesH l) syms).length)
  | [], o, acc, h, hL => by simp [rdec, encOf]
  | s :: r, o, acc, h, hL => by
    obtain ⟨h0, k, hk, hk1⟩ := h s (by simp)
    have hg : l.getD s.toNat 0 = k := by simp [List.getD, hk]
    have hsl := (List.getElem?_eq_some_iff.1 hk).1
    have hcl : (codesH l).length = l.length := by rw [codesH, cl_len, List.length_replicate]
    obtain ⟨c, hc⟩ : ∃ c, (codesH l)[s.toNat]? = some c := ⟨_, List.getElem?_eq_getElem (by omega)⟩
    have hgc : (codesH l).getD s.toNat 0 = c := by simp [List.getD, hc]
    rw [encOf, hg, hgc, Int.toNat_natCast] at hL ⊢
    have hread := sym_read hv hk hk1 hc L o fun m hm => by
      rw [hL m (by rw [List.length_append, lowB_len]; omega), List.getElem?_append_left (by rw [lowB_len]; exact hm)]
    rw [List.length_cons, rdec, hread, if_neg (by simp)]
    simp only
    rw [dec_reads hv L r (o + k) _ (fun x hx => h x (by simp [hx])) fun m hm => by
      rw [Nat.add_assoc, hL (k + m) (by rw [List.length_append, lowB_len]; omega), List.getElem?_append_right (by rw [lowB_len]; omega), lowB_len, Nat.add_sub_cancel_left]]
    rw [List.length_append, lowB_len, List.append_assoc, show ((s.toNat : Nat) : Int) = s by omega, Nat.add_assoc]; rfl
theorem round_trip {l : List Int} (hv : validH l = true) (syms : List Int) (h : GoodS l syms) (hlen : syms.length ≤ 4096) :
    encR l syms = (pbs [] 0 (encOf l (codesH l) syms), (((encOf l (codesH l) syms).length : Nat) : Int), 0) ∧ Byt (pbs [] 0 (encOf l (codesH l) syms)) ∧
    decR l (pbs [] 0 (encOf l (codesH l) syms)) ((encOf l (codesH l) syms).length : Nat) (syms.length : Nat) = (syms, 0) := by
  obtain ⟨h1, h2⟩ := unpk_pack (encOf l (codesH l) syms)
  have hpl := pbs_len (encOf l (codesH l) syms) [] 0 rfl
  rw [Nat.zero_add] at hpl
  refine ⟨?_, h2, ?_⟩
  · rw [encR, if_neg (by rw [hv]; simp), if_neg (by omega), encB_of l (codesH l) syms [] h, List.nil_append]
  · rw [decR, if_neg (by rw [hv, hpl]; simp; omega)]
    simp only [Int.toNat_natCast]
    rw [h1, dec_reads hv _ syms 0 [] h fun m hm => by rw [Nat.zero_add]]
    simp
end Go.Proofs.Ytlgdilkmcfpjjaa
namespace Go.Proofs.Ytlgdilkmcfpjjaa
open Go.Ab Go.Srt
set_option maxHeartbeats 20000000
set_option linter.unusedVariables false
set_option linter.unusedSimpArgs false
attribute [local irreducible] Run Ops Op1 Does Val Tr PureF Eff1 NF Rel EffV

theorem pres_lv (c : List Int) : ∀ (x : List Int) (i : Nat), c.length ≤ x.length → (pres c x).length = (lv c i).length := by
  induction c with
  | nil => intro x i h; cases x <;> simp [pres, lv]
  | cons y c ih =>
    intro x i h
    cases x with
    | nil => simp at h
    | cons v x =>
      rw [pres, lv]
      split
      · rw [List.length_cons, List.length_cons, ih x (i + 1) (by simpa using h)]
      · exact ih x (i + 1) (by simpa using h)
theorem vsum_pres (limit : Int) (h15 : limit ≤ 15) : ∀ (c x : List Int) (s : Int), c.length = x.length → (∀ (i : Nat) a v, c[i]? = some a → x[i]? = some v → (0 < a → 1 ≤ v) ∧ (a ≤ 0 → v = 0) ∧ v ≤ limit) →
    vsum x s = some (s + ((2 ^ (15 - limit).toNat : Nat) : Int) * msum limit (pres c x))
  | [], [], s, _, _ => by simp [vsum, pres, msum]
  | [], _ :: _, s, h, _ => by simp at h
  | _ :: _, [], s, h, _ => by simp at h
  | a :: c, v :: x, s, hl, h => by
    obtain ⟨h1, h2, h3⟩ := h 0 a v rfl rfl
    have ih := fun s => vsum_pres limit h15 c x s (by simpa using hl) fun i a v ha hv => h (i + 1) a v (by simpa using ha) (by simpa using hv)
    rw [vsum, pres]
    by_cases ha : 0 < a
    · have hv := h1 ha
      rw [if_neg (by omega), if_pos (by omega), ih, if_pos ha, msum, Int.mul_add, show (15 - v).toNat = (15 - limit).toNat + (limit - v).toNat by omega, Nat.pow_add]
      simp; omega
    · have hv := h2 (by omega)
      rw [if_neg (by omega), if_neg (by omega), ih, if_neg ha]
theorem valid_of {counts ln : List Int} {limit : Int} (hck : checkH counts limit = 0) (hl : huffL counts limit = (ln, 0)) : validH ln = true := by
  obtain ⟨c1, c2, c3, c4, c5⟩ := checkH_ok hck
  obtain ⟨hll, hA, hB, hC⟩ := complete_plain hck hl
  have hpt : ∀ (i : Nat) a v, counts[i]? = some a → ln[i]? = some v → (0 < a → 1 ≤ v) ∧ (a ≤ 0 → v = 0) ∧ v ≤ limit := fun i a v ha hv => by
    obtain ⟨v', e1, e2, e3, e4⟩ := hA i a ha
    rw [hv] at e1
    obtain rfl : v = v' := by simpa using e1
    exact ⟨e2, e3, e4⟩
  have hvs := vsum_pres limit c2 counts ln 0 hll.symm hpt
  have hms : msum limit (pres counts ln) ≤ ((2 ^ limit.toNat : Nat) : Int) := by
    by_cases h2 : 2 ≤ (zleaves counts).length
    · rw [hC h2]; exact Int.le_refl _
    · rw [zleaves_len, ← pres_lv counts ln 0 (by omega)] at h2
      have hmem : ∀ y ∈ pres counts ln, 1 ≤ y := fun y hy => by
        obtain ⟨i, w, e1, e2, e3⟩ := pres_mem counts ln y hy
        exact (hpt i w y e1 e3).1 e2
      cases hp : pres counts ln with
      | nil => simp only [msum]; omega
      | cons y r =>
        rw [hp] at h2 hmem
        obtain rfl : r = [] := by cases r with | nil => rfl | cons _ _ => simp at h2
        have hy := hmem y (by simp)
        have : (2 : Nat) ^ (limit - y).toNat ≤ 2 ^ limit.toNat := Nat.pow_le_pow_right (by omega) (by omega)
        simp only [msum]; omega
  have hall : ((2 ^ (15 - limit).toNat : Nat) : Int) * ((2 ^ limit.toNat : Nat) : Int) = 32768 := by
    rw [← Int.natCast_mul, ← Nat.pow_add, show (15 - limit).toNat + limit.toNat = 15 by omega]; rfl
  have := Int.mul_le_mul_of_nonneg_left hms (Int.natCast_nonneg (2 ^ (15 - limit).toNat))
  rw [validH, if_neg (by omega), hvs]
  simp only [decide_eq_true_eq]
  omega
/-- how often symbols occur -/
def hist : List Int → List Int → List Int
  | [], h => h
  | s :: r, h => hist r (h.set s.toNat (h.getD s.toNat 0 + 1))
theorem hist_len : ∀ (r h : List Int), (hist r h).length = h.length
  | [], h => rfl
  | s :: r, h => by rw [hist, hist_len r, List.length_set]
theorem getD_nn {h : List Int} (hn : ∀ x ∈ h, 0 ≤ x) (i : Nat) : 0 ≤ h.getD i 0 := by
  rw [List.getD]
  cases hi : h[i]? with
  | none => simp
  | some x => exact hn x (List.mem_of_getElem? hi)
theorem set_self_getD {h : List Int} {i : Nat} (v : Int) (hl : i < h.length) : (h.set i v).getD i 0 = v := by simp [List.getD, List.getElem?_set_self hl]
theorem set_ne_getD {h : List Int} {i j : Nat} (v : Int) (hl : i ≠ j) : (h.set i v).getD j 0 = h.getD j 0 := by simp only [List.getD]; rw [List.getElem?_set_ne hl]
theorem set_nn {h : List Int} (hn : ∀ x ∈ h, 0 ≤ x) (i : Nat) : ∀ x ∈ h.set i (h.getD i 0 + 1), 0 ≤ x := fun x hx => by
  rcases List.mem_or_eq_of_mem_set hx with hx | rfl
  · exact hn x hx
  · have := getD_nn hn i; omega
theorem hist_nn : ∀ (r h : List Int), (∀ x ∈ h, 0 ≤ x) → ∀ x ∈ hist r h, 0 ≤ x
  | [], h, hn => hn
  | s :: r, h, hn => hist_nn r _ (set_nn hn _)
theorem hist_top (M : Int) : ∀ (r h : List Int) (m : Int), (∀ x ∈ h, x ≤ m) → 0 ≤ m → m + r.length ≤ M → ∀ x ∈ hist r h, x ≤ M
  | [], h, m, hn, _, hm => fun x hx => by have := hn x hx; simp at hm; omega
  | s :: r, h, m, hn, h0, hm => by
    refine hist_top M r _ (m + 1) (fun x hx => ?_) (by omega) (by simp at hm; omega)
    rcases List.mem_or_eq_of_mem_set hx with hx | rfl
    · have := hn x hx; omega
    · have : h.getD s.toNat 0 ≤ m := by
        rw [List.getD]
        cases hi : h[s.toNat]? with
        | none => simpa using h0
        | some x => exact hn x (List.mem_of_getElem? hi)
      omega
theorem hist_ge : ∀ (r h : List Int) (i : Nat), (∀ x ∈ h, 0 ≤ x) → h.getD i 0 ≤ (hist r h).getD i 0
  | [], h, i, _ => Int.le_refl _
  | s :: r, h, i, hn => by
    rw [hist]
    refine Int.le_trans ?_ (hist_ge r _ i (set_nn hn _))
    by_cases hi : i = s.toNat
    · subst hi
      by_cases hl : s.toNat < h.length
      · rw [set_self_getD _ hl]; omega
      · rw [List.set_eq_of_length_le (by omega)]; exact Int.le_refl _
    · rw [set_ne_getD _ (by omega)]; exact Int.le_refl _
theorem hist_has : ∀ (r h : List Int) (s : Int), (∀ x ∈ h, 0 ≤ x) → s ∈ r → s.toNat < h.length → 1 ≤ (hist r h).getD s.toNat 0
  | [], h, s, _, hs, _ => by simp at hs
  | t :: r, h, s, hn, hs, hl => by
    rw [List.mem_cons] at hs
    rw [hist]
    rcases hs with rfl | hs
    · refine Int.le_trans ?_ (hist_ge r _ s.toNat (set_nn hn _))
      have := getD_nn hn s.toNat
      rw [set_self_getD _ hl]; omega
    · exact hist_has r _ s (set_nn hn _) hs (by rw [List.length_set]; exact hl)
theorem cst_set : ∀ (h l : List Int) (i : Nat), (∀ x ∈ h, 0 ≤ x) → i < h.length → i < l.length → cst (h.set i (h.getD i 0 + 1)) l = cst h l + l.getD i 0
  | [], l, i, _, h, _ => by simp at h
  | _ :: _, [], i, _, _, h => by simp at h
  | c :: h, x :: l, 0, hn, _, _ => by
    have := hn c (by simp)
    simp only [List.set_cons_zero, List.getD_cons_zero, cst]
    rw [if_pos (by omega), Int.add_mul, Int.one_mul]
    by_cases hc : 0 < c
    · rw [if_pos hc]; omega
    · rw [if_neg hc, show c = 0 by omega]; omega
  | c :: h, x :: l, i + 1, hn, h1, h2 => by
    have := cst_set h l i (fun y hy => hn y (by simp [hy])) (by simpa using h1) (by simpa using h2)
    simp only [List.set_cons_succ, List.getD_cons_succ, cst]
    rw [this]; omega
theorem hist_cst (l cs : List Int) : ∀ (r h : List Int), (∀ x ∈ h, 0 ≤ x) → (∀ s ∈ r, 0 ≤ s ∧ s.toNat < h.length ∧ s.toNat < l.length ∧ 0 ≤ l.getD s.toNat 0) → cst (hist r h) l = cst h l + ((encOf l cs r).length : Nat)
  | [], h, _, _ => by simp [hist, encOf]
  | s :: r, h, hn, hs => by
    obtain ⟨h0, h1, h2, h3⟩ := hs s (by simp)
    rw [hist, hist_cst l cs r _ (set_nn hn _) fun t ht => by rw [List.length_set]; exact hs t (by simp [ht]), cst_set h l _ hn h1 h2, encOf, List.length_append, lowB_len]
    omega
theorem chk_of : ∀ (l : List Int) (q : Nat), (∀ x ∈ l, 0 ≤ x ∧ x ≤ 4096) → ∃ p, chk l q = some p ∧ p ≤ q + l.length
  | [], q, _ => ⟨q, rfl, Nat.le_refl _⟩
  | x :: r, q, h => by
    have hx := h x (by simp)
    obtain ⟨p, h1, h2⟩ := chk_of r (if 0 < x then q + 1 else q) fun y hy => h y (by simp [hy])
    refine ⟨p, by rw [chk, if_neg (by omega)]; exact h1, ?_⟩
    rw [List.length_cons]
    split at h2 <;> omega
theorem hist_check {syms : List Int} {limit : Int} (h1 : 5 ≤ limit) (h2 : limit ≤ 15) (hs : syms.length ≤ 100) : checkH (hist syms (List.replicate 32 0)) limit = 0 := by
  have hz : ∀ x ∈ List.replicate 32 (0 : Int), 0 ≤ x := fun x hx => by rw [List.eq_of_mem_replicate hx]; omega
  have hn := hist_nn syms _ hz
  have ht := hist_top 4096 syms (List.replicate 32 0) 0 (fun x hx => by rw [List.eq_of_mem_replicate hx]; omega) (by omega) (by omega)
  have hl := hist_len syms (List.replicate 32 0)
  rw [List.length_replicate] at hl
  obtain ⟨p, e1, e2⟩ := chk_of (hist syms (List.replicate 32 0)) 0 fun x hx => ⟨hn x hx, ht x hx⟩
  have hp : (2 : Nat) ^ 5 ≤ 2 ^ limit.toNat := Nat.pow_le_pow_right (by omega) (by omega)
  rw [checkH, if_neg (by omega), if_neg (by omega), e1]
  simp only
  rw [if_neg (by omega)]
end Go.Proofs.Ytlgdilkmcfpjjaa
namespace Go.Proofs.Ytlgdilkmcfpjjaa
open Go.Ab Go.Srt
set_option maxHeartbeats 20000000
set_option linter.unusedVariables false
set_option linter.unusedSimpArgs false
attribute [local irreducible] Run Ops Op1 Does Val Tr PureF Eff1 NF Rel EffV

theorem roundtrips_law (syms : List Int) (limit : Int) (hl : syms.length ≤ 9223372036854775807) : PureF Try.prog 11 [.d (ints syms), I .i64 limit] (B true) := by
  refine pure_of fun H => ?_
  refine spec_of Try.func11 (by kernel_rfl) rfl (by simp) ?_
  dsimp only [Try.f11]
  by_cases h100 : 100 < syms.length ∨ limit < 5 ∨ 15 < limit
  · repeat' (first | (refine k_op1 ?_; (first | refine o_sv rfl (by decide) ?_ | (refine k_blt ?_; (refine o_val (v_lenm rfl) rfl rfl (by decide) ?_)))) | (refine k_ops ?_; (first | refine o_go (by first | exact .inl rfl | exact .inr ⟨_, _, _, rfl, rfl, rfl⟩) ?_ | refine o_nil ?_ | refine o_no rfl rfl (by decide) ?_ | refine o_casep rfl rfl (fun _ => ?_) (fun _ => ?_))) | (refine k_run ?_; (first | refine r_seq ?_ | refine r_region ?_ | refine r_true rfl ?_ | refine r_skip ?_ | refine r_if rfl (fun _ => ?_) (fun _ => ?_))))
    all_goals try (exfalso; omega)
    all_goals exact r_ret Try.func11 _ (res_one rfl rfl) ⟨rfl, rfl⟩
  repeat' (first | (refine k_op1 ?_; (first | refine o_sv rfl (by decide) ?_ | (refine k_blt ?_; (refine o_val (v_lenm rfl) rfl rfl (by decide) ?_)) | (refine k_make ?_; (refine o_make (xs := (List.replicate 32 (0 : Int)).map fun x => [Dint x]) rfl rfl (by omega) (by omega) rfl rfl rfl (by decide) (by simp) ?_)))) | (refine k_ops ?_; (first | refine o_go (by first | exact .inl rfl | exact .inr ⟨_, _, _, rfl, rfl, rfl⟩) ?_ | refine o_nil ?_ | refine o_no rfl rfl (by decide) ?_ | refine o_casep rfl rfl (fun _ => ?_) (fun _ => ?_))) | (refine k_run ?_; (first | refine r_seq ?_ | refine r_region ?_ | refine r_true rfl ?_ | refine r_skip ?_ | refine r_block ?_ | refine r_if rfl (fun _ => ?_) (fun _ => ?_))))
  all_goals try (exfalso; omega)
  refine r_loop ?_
  refine r_less (r_inv (fun q : Nat × List Int => ⟨121, [(0, .d (ints syms)), (1, I .i64 limit), (5, .ref (0, 29)), (30, .d (ints syms)), (31, I .i64 syms.length), (32, I .i64 (q.1 : Nat))], [(29, .row 3 1 (q.2.map fun x => [Dint x]))], H⟩)
    (fun q => q.1 ≤ syms.length ∧ q.2.length = 32 ∧ (∀ x ∈ q.2, 0 ≤ x ∧ x ≤ q.1) ∧ (∀ j s, j < q.1 → syms[j]? = some s → 0 ≤ s ∧ s < 32) ∧ hist (syms.drop q.1) q.2 = hist syms (List.replicate 32 0)) (fun q => syms.length - q.1) ?_ (0, List.replicate 32 0) ⟨by simp, by simp, fun x hx => by rw [List.eq_of_mem_replicate hx]; simp, fun j s hj => by omega, rfl⟩) rfl rfl
  intro ⟨k, h⟩ ⟨h1, h2, h3, h4, h5⟩ ih
  simp only at h1 h2 h3 h4 h5 ih ⊢
  by_cases hlt : k < syms.length
  · obtain ⟨s, hx⟩ : ∃ s, syms[k]? = some s := ⟨_, List.getElem?_eq_getElem hlt⟩
    by_cases hs : s < 0 ∨ 32 ≤ s
    · repeat' (first | (refine k_op1 ?_; (first | refine o_sv rfl (by decide) ?_ | (refine k_load ?_; (refine o_val (v_loade rfl rfl rfl) rfl rfl (by decide) ?_)) | (refine k_index ?_; (refine o_val (v_index rfl (by omega) (idx hx) rfl) rfl rfl (by decide) ?_)))) | (refine k_ops ?_; (first | refine o_go (by first | exact .inl rfl | exact .inr ⟨_, _, _, rfl, rfl, rfl⟩) ?_ | refine o_nil ?_ | refine o_no rfl rfl (by decide) ?_ | refine o_casep rfl rfl (fun _ => ?_) (fun _ => ?_))) | (refine k_run ?_; (first | refine r_seq ?_ | refine r_region ?_ | refine r_true rfl ?_ | refine r_skip ?_ | refine r_block ?_ | refine r_if rfl (fun _ => ?_) (fun _ => ?_) | refine r_exit rfl ?_)))
      all_goals try (exfalso; omega)
      all_goals exact r_ret Try.func11 _ (res_one rfl rfl) ⟨rfl, rfl⟩
    · rw [drop_cons hx, hist] at h5
      obtain ⟨z, hz⟩ : ∃ z, h[s.toNat]? = some z := ⟨_, List.getElem?_eq_getElem (by omega)⟩
      have hgz : h.getD s.toNat 0 = z := by simp [List.getD, hz]
      rw [hgz] at h5
      have hzr := h3 z (List.mem_of_getElem? hz)
      repeat' (first | (refine k_op1 ?_; (first | refine o_sv rfl (by decide) ?_ | (refine k_load ?_; (first | refine o_val (v_rloadm hz rfl rfl rfl) rfl rfl (by decide) ?_ | refine o_val (v_loade rfl rfl rfl) rfl rfl (by decide) ?_)) | (refine k_index ?_; (first | refine o_val (v_index rfl (by omega) (idx hx) rfl) rfl rfl (by decide) ?_ | refine o_val (v_rindex rfl (by omega) (by rw [List.length_map]; omega) rfl) rfl rfl (by decide) ?_)) | (refine k_bin ?_; (refine o_val (v_add (wi64 (by omega) (by omega))) rfl rfl (by decide) ?_)) | (refine k_store ?_; (refine o_rstorem (z + 1) rfl rfl rfl rfl hz rfl rfl rfl rfl ?_)))) | (refine k_ops ?_; (first | refine o_go (by first | exact .inl rfl | exact .inr ⟨_, _, _, rfl, rfl, rfl⟩) ?_ | refine o_nil ?_ | refine o_no rfl rfl (by decide) ?_ | refine o_casep rfl rfl (fun _ => ?_) (fun _ => ?_))) | (refine k_run ?_; (first | refine r_seq ?_ | refine r_region ?_ | refine r_true rfl ?_ | refine r_skip ?_ | refine r_block ?_ | refine r_inBlock ?_ | refine r_if rfl (fun _ => ?_) (fun _ => ?_) | refine r_exit rfl ?_)))
      all_goals try (exfalso; omega)
      refine r_less (ih (k + 1, h.set s.toNat (z + 1)) ⟨by simp only; omega, by simp only [List.length_set]; exact h2, fun x hx => ?_, fun j t hj ht => ?_, h5⟩ (by simp only; omega)) rfl rfl
      · rcases List.mem_or_eq_of_mem_set hx with hx | rfl
        · have := h3 x hx; simp only; omega
        · simp only; omega
      · by_cases hjk : j < k
        · exact h4 j t hjk ht
        · obtain rfl : j = k := by simp only at hj; omega
          rw [hx] at ht
          obtain rfl : s = t := by simpa using ht
          omega
  · obtain rfl : k = syms.length := by omega
    rw [List.drop_length, hist] at h5
    subst h5
    have hck := hist_check (syms := syms) (limit := limit) (by omega) (by omega) (by omega)
    obtain ⟨cn, hcn⟩ : ∃ cn, hist syms (List.replicate 32 0) = cn := ⟨_, rfl⟩
    have hz0 : ∀ x ∈ List.replicate 32 (0 : Int), 0 ≤ x := fun x hx => by rw [List.eq_of_mem_replicate hx]; omega
    have hcnn := hist_nn syms _ hz0
    have hhas := fun s hs hh => hist_has syms (List.replicate 32 0) s hz0 hs (by rw [List.length_replicate]; exact hh)
    rw [hcn] at hck hcnn hhas h2 h3 ⊢
    obtain ⟨ln, hln⟩ := huff_ok hck
    obtain ⟨hll, hA, _, _⟩ := complete_plain hck hln
    have hv := valid_of hck hln
    have hin : ∀ s ∈ syms, 0 ≤ s ∧ s < 32 := fun s hs => by
      obtain ⟨j, hj⟩ := List.getElem?_of_mem hs
      exact h4 j s (List.getElem?_eq_some_iff.1 hj).1 hj
    have hlr := (validH_ok hv).2.1
    have hgood : GoodS ln syms := fun s hs => by
      obtain ⟨s0, s1⟩ := hin s hs
      have hg := hhas s hs (by omega)
      obtain ⟨c, hc⟩ : ∃ c, cn[s.toNat]? = some c := ⟨_, List.getElem?_eq_getElem (by omega)⟩
      rw [List.getD, hc, Option.getD_some] at hg
      obtain ⟨v, e1, e2, _⟩ := hA s.toNat c hc
      have := e2 (by omega)
      exact ⟨s0, v.toNat, by rw [e1]; congr 1; omega, by omega⟩
    obtain ⟨hE, hB, hD⟩ := round_trip hv syms hgood (by omega)
    have hcost := hist_cst ln (codesH ln) syms (List.replicate 32 0) hz0 fun s hs => by
      obtain ⟨s0, s1⟩ := hin s hs
      obtain ⟨_, kk, e1, e2⟩ := hgood s hs
      exact ⟨s0, by rw [List.length_replicate]; omega, (List.getElem?_eq_some_iff.1 e1).1, by rw [List.getD, e1, Option.getD_some]; omega⟩
    have hcst0 : cst (List.replicate 32 0) ln = 0 := by
      have : ∀ (n : Nat) (x : List Int), cst (List.replicate n 0) x = 0 := by
        intro n
        induction n with
        | zero => intro x; simp [cst]
        | succ n ih => intro x; cases x with
          | nil => rfl
          | cons y x => rw [List.replicate_succ, cst, ih]; simp
      exact this 32 ln
    rw [hcn, hcst0, Int.zero_add] at hcost
    have hel : (encOf ln (codesH ln) syms).length ≤ 15 * syms.length := by
      have : ∀ r : List Int, (encOf ln (codesH ln) r).length ≤ 15 * r.length := by
        intro r
        induction r with
        | nil => simp [encOf]
        | cons s r ih =>
          rw [encOf, List.length_append, lowB_len, List.length_cons]
          have : ln.getD s.toNat 0 ≤ 15 := by
            rw [List.getD]
            cases hi : ln[s.toNat]? with
            | none => simp
            | some x => exact (hlr x (List.mem_of_getElem? hi)).2
          omega
      exact this syms
    obtain ⟨bs, hbs⟩ : ∃ bs, encOf ln (codesH ln) syms = bs := ⟨_, rfl⟩
    rw [hbs] at hE hB hD hcost hel
    have hpl := pbs_len bs [] 0 rfl
    rw [Nat.zero_add] at hpl
    obtain ⟨by', hby⟩ : ∃ by', pbs [] 0 bs = by' := ⟨_, rfl⟩
    rw [hby] at hE hB hD hpl
    have c1 := lengths_s cn limit (by omega)
    have c2 := encode_s ln syms (by omega) hl
    have c3 := decode_s ln by' ((bs.length : Nat) : Int) ((syms.length : Nat) : Int) (by omega) (by omega) hB
    have c4 := same_s syms syms (by omega) (by omega)
    rw [hln] at c1
    rw [hE] at c2
    rw [hD] at c3
    rw [decide_eq_true rfl] at c4
    dsimp only at c1 c2 c3
    refine r_freeze 29 rfl ?_
    repeat' (first | (refine k_op1 ?_; (first | refine o_sv rfl (by decide) ?_ | (refine k_blt ?_; (refine o_val (v_lenm rfl) rfl rfl (by decide) ?_)) | (refine k_call ?_; (first | refine o_fn c1 rfl (by decide) ?_ | refine o_fn c2 rfl (by decide) ?_ | refine o_fn c3 rfl (by decide) ?_)))) | (refine k_ops ?_; (first | refine o_go (by first | exact .inl rfl | exact .inr ⟨_, _, _, rfl, rfl, rfl⟩) ?_ | refine o_nil ?_)) | (refine k_run ?_; (first | refine r_seq ?_ | refine r_region ?_ | refine r_skip ?_ | refine r_block ?_ | refine r_if rfl (fun _ => ?_) (fun _ => ?_) | refine r_ifn rfl (fun _ => ?_) (fun _ => ?_) | refine r_exit rfl ?_)))
    all_goals try (exfalso; omega)
    refine r_loop ?_
    refine r_less (r_inv (fun q : Nat × Int => ⟨121, [(0, .d (ints syms)), (5, .d (ints cn)), (8, .d (ints ln)), (10, .d (bytesL by')), (11, I .i64 ((bs.length : Nat) : Int)), (13, .d (ints syms)), (15, I .i64 q.2), (86, .d (ints cn)), (87, I .i64 cn.length), (88, I .i64 (q.1 : Nat))], [], H⟩)
      (fun q => q.1 ≤ cn.length ∧ (0 ≤ q.2 ∧ q.2 ≤ q.1 * 61440) ∧ q.2 + cst (cn.drop q.1) (ln.drop q.1) = cst cn ln) (fun q => cn.length - q.1) ?_ (0, 0) ⟨by simp, by simp, by simp⟩) rfl rfl
    intro ⟨i, cost⟩ ⟨g1, ⟨g2, g3⟩, g4⟩ ih2
    simp only at g1 g2 g3 g4 ih2 ⊢
    by_cases hlt2 : i < cn.length
    · obtain ⟨c, hc⟩ : ∃ c, cn[i]? = some c := ⟨_, List.getElem?_eq_getElem hlt2⟩
      obtain ⟨v, hvx⟩ : ∃ v, ln[i]? = some v := ⟨_, List.getElem?_eq_getElem (by omega)⟩
      rw [drop_cons hc, drop_cons hvx, cst] at g4
      have hcr := h3 c (List.mem_of_getElem? hc)
      have hvr := hlr v (List.mem_of_getElem? hvx)
      have hp := cst_prod (c := c) (x := v) hcr.1 (by omega) hvr.1 hvr.2
      have hcv : (if 0 < c then c * v else 0) = c * v := by
        by_cases h : 0 < c
        · rw [if_pos h]
        · rw [if_neg h, show c = 0 by omega, Int.zero_mul]
      rw [hcv] at g4
      repeat' (first | (refine k_op1 ?_; (first | refine o_sv rfl (by decide) ?_ | (refine k_load ?_; (refine o_val (v_loade rfl rfl rfl) rfl rfl (by decide) ?_)) | (refine k_index ?_; (first | refine o_val (v_index rfl (by omega) (idx hc) rfl) rfl rfl (by decide) ?_ | refine o_val (v_index rfl (by omega) (idx hvx) rfl) rfl rfl (by decide) ?_)) | (refine k_bin ?_; (first | refine o_val (v_mul (wi64 (by omega) (by omega))) rfl rfl (by decide) ?_ | refine o_val (v_add (wi64 (by omega) (by omega))) rfl rfl (by decide) ?_)) | (refine k_blt ?_; (refine o_val (v_lenm rfl) rfl rfl (by decide) ?_)))) | (refine k_ops ?_; (first | refine o_go (by first | exact .inl rfl | exact .inr ⟨_, _, _, rfl, rfl, rfl⟩) ?_ | refine o_nil ?_ | refine o_no rfl rfl (by decide) ?_ | refine o_casep rfl rfl (fun _ => ?_) (fun _ => ?_))) | (refine k_run ?_; (first | refine r_seq ?_ | refine r_region ?_ | refine r_skip ?_ | refine r_block ?_ | refine r_inBlock ?_ | refine r_if rfl (fun _ => ?_) (fun _ => ?_) | refine r_exit rfl ?_)))
      all_goals try (exfalso; omega)
      exact r_less (ih2 (i + 1, cost + c * v) ⟨by simp only; omega, ⟨by simp only; omega, by simp only; omega⟩, by simp only; omega⟩ (by simp only; omega)) rfl rfl
    · obtain rfl : i = cn.length := by omega
      rw [List.drop_length, cst_nil, Int.add_zero, hcost] at g4
      subst g4
      repeat' (first | (refine k_op1 ?_; (first | refine o_sv rfl (by decide) ?_ | (refine k_bin ?_; (first | refine o_val (v_quo (by omega) (by omega) (wi64 (by omega) (by omega))) rfl rfl (by decide) ?_ | refine o_val (v_add (wi64 (by omega) (by omega))) rfl rfl (by decide) ?_)) | (refine k_blt ?_; (refine o_val (v_lenm rfl) rfl rfl (by decide) ?_)) | (refine k_call ?_; (first | refine o_fn c4 rfl (by decide) ?_ | refine o_fn awake_s rfl (by decide) ?_)))) | (refine k_ops ?_; (first | refine o_go (by first | exact .inl rfl | exact .inr ⟨_, _, _, rfl, rfl, rfl⟩) ?_ | refine o_nil ?_ | refine o_no rfl rfl (by decide) ?_ | refine o_casep rfl rfl (fun _ => ?_) (fun _ => ?_))) | (refine k_run ?_; (first | refine r_seq ?_ | refine r_region ?_ | refine r_skip ?_ | refine r_block ?_ | refine r_if rfl (fun _ => ?_) (fun _ => ?_) | refine r_exit rfl ?_)))
      all_goals try (exfalso; omega)
      all_goals exact r_ret Try.func11 _ (res_one rfl rfl) ⟨rfl, rfl⟩
end Go.Proofs.Ytlgdilkmcfpjjaa
