/- A part of the proof: G29, G31, G32. -/
import Derived.Test.YtjmbjgecfpggdaaGreatDoorRq
import Derived.Test.YtjmbjgecfpggdaaGreatDoorRr
import Derived.Test.YtjmbjgecfpggdaaGreatDoorRp
import Derived.Test.YtjmbjgecfpggdaaGreatDoorRx
import Derived.Test.YtjmbjgecfpggdaaGreatDoorRu
set_option linter.all false
set_option linter.unusedVariables false
set_option linter.unusedSimpArgs false
namespace Go.Proofs.YtjmbjgecfpggdaaGreatDoor
open Go.Ab Go.Rx
set_option maxHeartbeats 20000000
set_option maxRecDepth 100000
attribute [local irreducible] Run Ops Op1 z2q Val Tr z1p z2j NF Rel z5b z5c z84
mutual
theorem zi2 : ∀ e : Rx, fit e → zt3 (fun l => l.length ≤ 9223372036854775807) e
 | .mk op mn mx rs ks, h => by rw [fit] at h; rw [zt3]; exact ⟨h.1, zfq ks h.2.2⟩
theorem zfq : ∀ ks : List Rx, zgv ks → zg9 (fun l => l.length ≤ 9223372036854775807) ks
 | [], _ => by rw [zg9]; trivial
 | k :: ks, h => by rw [zgv] at h; rw [zg9]; exact ⟨zi2 k h.1, zfq ks h.2⟩
end
theorem zqe (l : List Rg) (c : Int) : inB l c = inR l c := rfl
abbrev zfh (x : Int) : List D := [zn0 x]
theorem zp5 : ∀ (l : List U) (i : Nat), (unF i l).all okU = l.all zve
 | [], i => rfl
 | u :: l, i => by
  rw [unF, List.all_cons, List.all_cons, zp5 l]
  congr 1
  simp only [okU, zve]
  congr 1
  rw [decide_eq_decide]; omega
theorem zp6 (S : Nat) : ∀ (l : List Nat) (i acc : Nat), acc < 2 ^ 64 → (∀ x ∈ l, x < 2 ^ 64) → nxF S i acc l < 2 ^ 64
 | [], i, acc, h, _ => h
 | x :: l, i, acc, h, hl => by
  rw [nxF]
  refine zp6 S l _ _ ?_ (fun y hy => hl y (by simp [hy]))
  split
  · exact Nat.or_lt_two_pow h (hl x (by simp))
  · exact h
theorem ztk {e : Rx} (h : val e = 0) : Rx.pn e ≤ 64 := by
 rw [val] at h
 split at h
 · simp at h
 split at h
 · simp at h
 split at h
 · simp at h
 · omega
theorem zkw (g : FuncId) (vs : Int → List Int) (hvs : ∀ c : Int, Utf8.valid c = true → z1p Tryz.prog g [I .i32 c] (.d (.slice ((vs c).map zfh)))) (hvl : ∀ c, (vs c).length ≤ 3) (e : Rx) (hf : fit e) (s : ByteArray) (hs : s.size ≤ 1000000) :
  z1p Tryz.prog 40 [.d (Drx e), S s, .fn (.func g) [] []] (B (mtS vs e s)) := by
 refine z2e fun H => ?_
 have hval := z9v e hf
 have hvd := zq0 s hs
 rw [zp5] at hvd
 change z1p Tryz.prog 55 [S s] (B (zue s)) at hvd
 have hmt : mtS vs e s = (decide (val e = 0) && zue s && Rx.mt (okV vs) e (zl3 s)) := rfl
 obtain ⟨res, hres⟩ : ∃ b, mtS vs e s = b := ⟨_, rfl⟩
 rw [hres] at hmt ⊢
 by_cases h0 : val e = 0
 · cases h1 : zue s with
   | false =>
    rw [h1, Bool.and_false, Bool.false_and] at hmt
    rw [h1] at hvd
    rw [h0] at hval
    subst hmt
    obtain ⟨op, mn, mx, rs, ks⟩ := e
    rw [z3u] at hval ⊢
    refine z1c Tryz.func40 (by kernel_rfl) rfl (by simp) ?_
    dsimp only [Tryz.f40]
    repeat' (first | (apply z0e; (first | refine z11 rfl (by decide) ?_ | (apply z0a; (refine z00 (z3r rfl rfl rfl) rfl rfl (by decide) ?_)) | (apply z0o; (first | refine z2v hval rfl (by decide) ?_ | refine z2v hvd rfl (by decide) ?_)) | (apply z3b; (refine z0k (z2m rfl rfl (by decide)) ?_)))) | (apply z0b; (first | refine z10 ?_ | apply z0d)) | (apply z0c; (first | apply z0f | apply z01 | refine z0r rfl ?_)))
    all_goals try (exfalso; omega)
    all_goals exact z0g Tryz.func40 _ (z0j rfl rfl) ⟨rfl, rfl⟩
   | true =>
    rw [h1, h0, decide_eq_true rfl, Bool.true_and, Bool.true_and] at hmt
    rw [h1] at hvd
    have hvn := zgi h0
    have hpn := ztk h0
    have hof := zw9 e hvn hf hpn
    have hbl := (zs2 hvn).bl tb0 rfl
    have hfw := (zs2 hvn).few tb0 rfl
    have hlv := zvr.1 e (zi2 e hf) tb0 (by simp)
    rw [h0] at hval
    dsimp only [ofB] at hof
    rw [Rx.mt] at hmt
    change res = mtF (okV vs) (bd e tb0).1 (bd e tb0).2 (zl3 s) at hmt
    generalize hB : bd e tb0 = r1 at *
    obtain ⟨t1, p⟩ := r1
    have hfw2 : (t1.lv.length : Int) ≤ Rx.pn e := by simpa using hfw
    obtain ⟨s2, pf, pl⟩ := hbl.sm ⟨rfl, by simp⟩ (by show t1.lv.length ≤ 64; omega)
    obtain ⟨lv, fo⟩ := t1
    have hl64 : lv.length ≤ 64 := by
     have : lv.length = (⟨lv, fo⟩ : Tb).lv.length := rfl
     omega
    have hfo : fo.length = lv.length := s2.len
    have hfx : ∀ x ∈ fo, x < 2 ^ 64 := s2.sm
    simp only at hlv pf pl hmt hof
    obtain ⟨op, mn, mx, rs, ks⟩ := e
    rw [z3u] at hval hof ⊢
    refine z1c Tryz.func40 (by kernel_rfl) rfl (by simp) ?_
    dsimp only [Tryz.f40]
    repeat' (first | (apply z0e; (first | refine z11 rfl (by decide) ?_ | (apply z0a; (refine z00 (z3r rfl rfl rfl) rfl rfl (by decide) ?_)) | (apply z0o; (first | refine z2v hval rfl (by decide) ?_ | refine z2v hvd rfl (by decide) ?_ | (refine zrp rfl (hof _) (by decide) rfl (fun r H' h => ⟨_, h.1, h.2, rfl, rfl, ?_⟩)) /- zi5 -/)) | (apply z3b; (refine z0k (z2m rfl rfl (by decide)) ?_)) | refine zab rfl rfl rfl (by decide) ?_)) | (apply z0b; (first | refine z10 ?_ | apply z0d)) | (apply z0c; (first | apply z0f | apply z01 | refine z0h rfl ?_ | apply z09 | apply z03)))
    all_goals try (exfalso; omega)
    refine z1x ?_
    refine z0s (z2u (fun q : Nat × Nat × Bool => ⟨88, [(2, .fn (.func g) [] []), (7, .ptr (0, 26) 0), (8, I .u64 (q.2.1 : Nat)), (9, B q.2.2), (28, .ptr (0, 28) 0)], [(26, tbx lv p.f p.l fo p.nu), (28, .siter s q.1)], H⟩)
     (fun q => q.1 ≤ s.size ∧ q.2.1 < 2 ^ 64 ∧ ((q.2.2 = true ∧ q.1 = 0 ∧ q.2.1 = 0) ∨ (q.2.2 = false ∧ zs3 (okV vs) ⟨lv, fo⟩ p.l q.2.1 ((rst s q.1).map (·.r)) = res))) (fun q => s.size - q.1) ?_ (0, 0, true) ⟨Nat.zero_le _, by decide, .inl ⟨rfl, rfl, rfl⟩⟩) rfl rfl
    rintro ⟨q, S, beg⟩ ⟨i1, i2, i3⟩ ih
    simp only at i1 i2 i3 ih ⊢
    by_cases hlt : q < s.size
    · have hd := z4b hlt
      have hw := z7e s q hlt
      have hcv := zc0 s q hlt
      have hvc := hvs _ hcv
      have hvl2 := hvl ((Utf8.decode s q).1 : Nat)
      have hnx := zn7 (X := 26) lv p.f p.l fo p.nu S i2 (by omega) hfx beg 0
      obtain ⟨N, hN⟩ : ∃ N, (if beg = true then p.f else nxF S 0 0 fo) = N := ⟨_, rfl⟩
      have hNl : N < 2 ^ 64 := by
       rw [← hN]
       split
       · exact pf
       · exact zp6 S fo 0 0 (by decide) hfx
      rw [hN] at hnx
      obtain ⟨c, hc⟩ : ∃ c, ((Utf8.decode s q).1 : Int) = c := ⟨_, rfl⟩
      obtain ⟨vl, hvle⟩ : ∃ vl, vs ((Utf8.decode s q).1 : Nat) = vl := ⟨_, rfl⟩
      rw [hvle] at hvc hvl2
      obtain ⟨S', hS'⟩ : ∃ S', rdF (okV vs) c N 0 0 lv = S' := ⟨_, rfl⟩
      have key : (S' = 0 → res = false) ∧ (S' ≠ 0 → zs3 (okV vs) ⟨lv, fo⟩ p.l S' ((rst s (q + (Utf8.decode s q).2)).map (·.r)) = res) := by
       rcases i3 with ⟨rfl, rfl, rfl⟩ | ⟨rfl, i3⟩
       · rw [if_pos rfl] at hN
         subst hN
         rw [zl3, hd, List.map_cons, mtF] at hmt
         simp only [hc, hS'] at hmt
         constructor
         · intro h; rw [hmt, if_pos h]
         · intro h; rw [hmt, if_neg h]
       · rw [if_neg (by decide)] at hN
         rw [hd, List.map_cons, zs3] at i3
         simp only [hc, hN, hS'] at i3
         constructor
         · intro h; rw [← i3, if_pos h]
         · intro h; rw [if_neg h] at i3; exact i3
      have hS'l : S' < 2 ^ 64 := by rw [← hS']; exact zsg _ _ _ hl64 (by decide)
      have hrv := ztd vs c N lv
      rw [hS', ← hc, hvle] at hrv
      have hdl : ∀ v : Int, ∀ l : List Rg, l.length ≤ 9223372036854775807 → z1p Tryz.prog 58 [.d (rgs l), I .i32 v] (B (inB l v)) := fun v l h => zjc l h v
      repeat' (first | (apply z0e; (first | refine z11 rfl (by decide) ?_ | (apply z1e; (refine z00 (z1q rfl) rfl rfl (by decide) ?_)) | (apply z0o; (first | refine z0m hnx rfl rfl (by decide) ?_ | (refine zql [] [] [I .i32 ((Utf8.decode s q).1 : Int)] (hvc.at _) rfl rfl (by decide) ?_) /- zi5 -/)) | refine z3l hlt rfl rfl (by decide) ?_)) | (apply z0b; (first | refine z10 ?_ | apply z0d)) | (apply z0c; (first | apply z0f | apply z01 | refine z0r rfl ?_ | apply z09 | apply z03)))
      all_goals try (exfalso; omega)
      refine z1x ?_
      refine z0s (z2u (fun j : Nat × Nat => ⟨88, [(2, .fn (.func g) [] []), (7, .ptr (0, 26) 0), (8, I .u64 (j.2 : Nat)), (9, B false), (12, I .u64 (N : Nat)), (28, .ptr (0, 28) 0), (38, .d (.slice (vl.map zfh))), (39, I .i64 vl.length), (40, I .i64 (j.1 : Nat))], [(26, tbx lv p.f p.l fo p.nu), (28, .siter s (q + (Utf8.decode s q).2))], H⟩)
       (fun j => j.1 ≤ vl.length ∧ j.2 < 2 ^ 64 ∧ rdV N lv (vl.drop j.1) j.2 = S') (fun j => vl.length - j.1) ?_ (0, 0) ⟨Nat.zero_le _, by decide, hrv⟩) rfl rfl
      rintro ⟨j, A⟩ ⟨m1, m2, m3⟩ ihm
      simp only at m1 m2 m3 ihm ⊢
      by_cases hj : j < vl.length
      · obtain ⟨v, hv⟩ : ∃ v, vl[j]? = some v := ⟨_, List.getElem?_eq_getElem hj⟩
        rw [drop_cons hv, rdV] at m3
        obtain ⟨A', hA'⟩ : ∃ A', rdF (fun c l => inR l c) v N 0 A lv = A' := ⟨_, rfl⟩
        rw [hA'] at m3
        have hvi : (vl.map zfh)[((j : Nat) : Int).toNat]? = some (zfh v) := by simp [hv]
        repeat' (first | (apply z0e; (first | refine z11 rfl (by decide) ?_ | (apply z0a; (first | refine z00 (z0u rfl rfl rfl rfl) rfl rfl (by decide) ?_ | refine z00 (z4s rfl rfl rfl) rfl rfl (by decide) ?_)) | (apply z07; (refine z00 (z04 rfl rfl) rfl rfl (by decide) ?_)) | (apply z1f; (refine z00 (z1b (ys := vl.map zfh) rfl (by omega) hvi rfl) rfl rfl (by decide) ?_)) | (apply z1e; (refine z00 (z1q rfl) rfl rfl (by decide) ?_)))) | (apply z0b; (first | refine z10 ?_ | apply z0d)) | (apply z0c; (first | apply z0f | apply z01 | apply z09 | apply z03 | apply z08 | refine z1i rfl (fun _ => ?_) (fun _ => ?_) | refine z0p rfl ?_)))
        all_goals try (exfalso; omega)
        refine z1x ?_
        refine z0s (z2u (fun k : Nat × Nat => ⟨88, [(2, .fn (.func g) [] []), (7, .ptr (0, 26) 0), (8, I .u64 (k.2 : Nat)), (9, B false), (12, I .u64 (N : Nat)), (14, I .i32 v), (28, .ptr (0, 28) 0), (38, .d (.slice (vl.map zfh))), (39, I .i64 vl.length), (40, I .i64 (j : Nat)), (47, .d (lvs lv)), (48, I .i64 lv.length), (49, I .i64 (k.1 : Nat))], [(26, tbx lv p.f p.l fo p.nu), (28, .siter s (q + (Utf8.decode s q).2))], H⟩)
         (fun k => k.1 ≤ lv.length ∧ k.2 < 2 ^ 64 ∧ rdF (fun c l => inR l c) v N k.1 k.2 (lv.drop k.1) = A') (fun k => lv.length - k.1) ?_ (0, A) ⟨Nat.zero_le _, m2, hA'⟩) rfl rfl
        rintro ⟨k, B'⟩ ⟨n1, n2, n3⟩ ihn
        simp only at n1 n2 n3 ihn ⊢
        by_cases hk : k < lv.length
        · obtain ⟨l, hl⟩ : ∃ l, lv[k]? = some l := ⟨_, List.getElem?_eq_getElem hk⟩
          have hlm := hlv l (List.mem_of_getElem? hl)
          have hcl := hdl v l hlm
          have hli : (lv.map fun r => [rgs r])[((k : Nat) : Int).toNat]? = some [rgs l] := by simp [hl]
          rw [zmx _ _ _ hl] at n3
          have hbt := zrc (S := N) (i := k) hNl (by omega)
          have hsh := zso (i := k) (by omega)
          have hp2 : 2 ^ k < 2 ^ 64 := Nat.pow_lt_pow_right (by decide) (by omega)
          have hor := zre n2 hp2
          rw [← hsh] at hor
          rw [zqe] at hcl
          by_cases htb : N.testBit k = true
          · rw [if_pos htb] at hbt
            cases hin : inR l v with
            | true =>
             rw [if_pos ⟨htb, hin⟩] at n3
             rw [hin] at hcl
             have ihn' := ihn (k + 1, B' ||| 2 ^ k) ⟨by simp only; omega, Nat.or_lt_two_pow n2 hp2, n3⟩ (by simp only; omega)
             dsimp only at ihn'
             rw [← hor] at ihn'
             repeat' (first | (apply z0e; (first | refine z11 rfl (by decide) ?_ | (apply z0a; (refine z00 (z4s rfl rfl rfl) rfl rfl (by decide) ?_)) | (apply z1f; (refine z00 (z1b (ys := lv.map fun r => [rgs r]) rfl (by omega) hli rfl) rfl rfl (by decide) ?_)) | (apply z13; (first | refine z00 (zg7 (by omega)) rfl rfl (by decide) ?_ | refine z00 (zr8 (by omega)) rfl rfl (by decide) ?_ | refine z00 z9k rfl rfl (by decide) ?_ | refine z00 zcj rfl rfl (by decide) ?_ | refine z00 (z19 (z1o (by omega) (by omega))) rfl rfl (by decide) ?_)) | (apply z0o; (refine z2v hcl rfl (by decide) ?_)))) | (apply z0b; (first | refine z10 ?_ | apply z0d | refine z2f rfl rfl (by decide) ?_ | refine z16 rfl rfl (fun _ => ?_) (fun _ => ?_))) | (apply z0c; (first | apply z0f | apply z01 | refine z0r rfl ?_ | refine z0h rfl ?_ | apply z09 | apply z03 | apply z08 | refine z1i rfl (fun _ => ?_) (fun _ => ?_) | refine z0p rfl ?_)))
             all_goals try (exfalso; omega)
             all_goals exact z0s ihn' rfl rfl
            | false =>
             rw [if_neg (fun h => by rw [hin] at h; cases h.2)] at n3
             rw [hin] at hcl
             have ihn' := ihn (k + 1, B') ⟨by simp only; omega, n2, n3⟩ (by simp only; omega)
             repeat' (first | (apply z0e; (first | refine z11 rfl (by decide) ?_ | (apply z0a; (refine z00 (z4s rfl rfl rfl) rfl rfl (by decide) ?_)) | (apply z1f; (refine z00 (z1b (ys := lv.map fun r => [rgs r]) rfl (by omega) hli rfl) rfl rfl (by decide) ?_)) | (apply z13; (first | refine z00 (zg7 (by omega)) rfl rfl (by decide) ?_ | refine z00 z9k rfl rfl (by decide) ?_ | refine z00 (z19 (z1o (by omega) (by omega))) rfl rfl (by decide) ?_)) | (apply z0o; (refine z2v hcl rfl (by decide) ?_)))) | (apply z0b; (first | refine z10 ?_ | apply z0d | refine z2f rfl rfl (by decide) ?_ | refine z16 rfl rfl (fun _ => ?_) (fun _ => ?_))) | (apply z0c; (first | apply z0f | apply z01 | refine z0h rfl ?_ | apply z09 | apply z03 | apply z08 | refine z1i rfl (fun _ => ?_) (fun _ => ?_) | refine z0p rfl ?_)))
             all_goals try (exfalso; omega)
             all_goals exact z0s ihn' rfl rfl
          · rw [if_neg htb] at hbt
            rw [if_neg (fun h => htb h.1)] at n3
            have ihn' := ihn (k + 1, B') ⟨by simp only; omega, n2, n3⟩ (by simp only; omega)
            repeat' (first | (apply z0e; (first | refine z11 rfl (by decide) ?_ | (apply z0a; (refine z00 (z4s rfl rfl rfl) rfl rfl (by decide) ?_)) | (apply z1f; (refine z00 (z1b (ys := lv.map fun r => [rgs r]) rfl (by omega) hli rfl) rfl rfl (by decide) ?_)) | (apply z13; (first | refine z00 (zg7 (by omega)) rfl rfl (by decide) ?_ | refine z00 (zr8 (by omega)) rfl rfl (by decide) ?_ | refine z00 z9k rfl rfl (by decide) ?_ | refine z00 zcj rfl rfl (by decide) ?_ | refine z00 (z19 (z1o (by omega) (by omega))) rfl rfl (by decide) ?_)) | (apply z0o; (refine z2v hcl rfl (by decide) ?_)))) | (apply z0b; (first | refine z10 ?_ | apply z0d | refine z2f rfl rfl (by decide) ?_ | refine z16 rfl rfl (fun _ => ?_) (fun _ => ?_))) | (apply z0c; (first | apply z0f | apply z01 | refine z0h rfl ?_ | apply z09 | apply z03 | apply z08 | refine z1i rfl (fun _ => ?_) (fun _ => ?_) | refine z6x rfl (fun _ => ?_) (fun _ => ?_) | refine z0p rfl ?_)))
            all_goals try (exfalso; omega)
            all_goals exact z0s ihn' rfl rfl
        · obtain rfl : k = lv.length := by omega
          rw [List.drop_length, rdF] at n3
          subst n3
          have ihm' := ihm (j + 1, B') ⟨by simp only; omega, n2, m3⟩ (by simp only; omega)
          repeat' (first | (apply z0e; (first | refine z11 rfl (by decide) ?_ | (apply z13; (refine z00 (z19 (z1o (by omega) (by omega))) rfl rfl (by decide) ?_)))) | (apply z0b; (first | refine z10 ?_ | apply z0d)) | (apply z0c; (first | apply z0f | apply z01 | apply z09 | apply z03 | apply z08 | refine z1i rfl (fun _ => ?_) (fun _ => ?_) | refine z0p rfl ?_)))
          all_goals try (exfalso; omega)
          all_goals exact z0s ihm' rfl rfl
      · obtain rfl : j = vl.length := by omega
        rw [List.drop_length, rdV] at m3
        subst m3
        by_cases hA : A = 0
        · subst hA
          have hr := key.1 rfl
          subst hr
          repeat' (first | (apply z0e; (refine z11 rfl (by decide) ?_)) | (apply z0b; (first | refine z10 ?_ | apply z0d)) | (apply z0c; (first | apply z0f | apply z01 | refine z0r rfl ?_ | apply z09 | apply z03 | refine z1i rfl (fun _ => ?_) (fun _ => ?_) | refine z0p rfl ?_)))
          all_goals try (exfalso; omega)
          all_goals exact z0g Tryz.func40 _ (z0j rfl rfl) ⟨rfl, rfl⟩
        · have hr := key.2 hA
          have ih' := ih (q + (Utf8.decode s q).2, A, false) ⟨by simp only; omega, m2, .inr ⟨rfl, hr⟩⟩ (by simp only; omega)
          repeat' (first | (apply z0e; (refine z11 rfl (by decide) ?_)) | (apply z0b; (first | refine z10 ?_ | apply z0d)) | (apply z0c; (first | apply z0f | apply z01 | apply z09 | apply z03 | apply z08 | refine z1i rfl (fun _ => ?_) (fun _ => ?_) | refine z0p rfl ?_)))
          all_goals try (exfalso; omega)
          all_goals exact z0s ih' rfl rfl
    · obtain rfl : q = s.size := by omega
      have hd := z34 (s := s) (i := s.size) (Nat.le_refl _)
      rcases i3 with ⟨rfl, h0q, rfl⟩ | ⟨rfl, i3⟩
      · have hz : rst s 0 = [] := z34 (by omega)
        rw [zl3, hz, List.map_nil, mtF] at hmt
        subst hmt
        cases hnu : p.nu with
        | true =>
         repeat' (first | (apply z0e; (first | refine z11 rfl (by decide) ?_ | (apply z0a; (refine z00 (z0u rfl rfl rfl rfl) rfl rfl (by decide) ?_)) | (apply z07; (refine z00 (z04 rfl rfl) rfl rfl (by decide) ?_)) | refine z3m hlt rfl rfl (by decide) ?_)) | (apply z0b; (first | refine z10 ?_ | apply z0d | refine z2f rfl rfl (by decide) ?_)) | (apply z0c; (first | apply z0f | apply z01 | refine z0h rfl ?_ | refine z0p rfl ?_)))
         all_goals try (exfalso; omega)
         all_goals exact z0g Tryz.func40 _ (z0j rfl rfl) ⟨rfl, rfl⟩
        | false =>
         have ha := zqc (a := 0) (b := p.l) (by decide) pl
         rw [Nat.zero_and] at ha
         have hfin : (!decide (zr6 .u64 ((0 : Nat) : Int) (p.l : Nat) = 0)) = false := by rw [ha]; rfl
         repeat' (first | (apply z0e; (first | refine z11 rfl (by decide) ?_ | (apply z0a; (refine z00 (z0u rfl rfl rfl rfl) rfl rfl (by decide) ?_)) | (apply z07; (refine z00 (z04 rfl rfl) rfl rfl (by decide) ?_)) | (apply z13; (refine z00 z9k rfl rfl (by decide) ?_)) | refine z3m hlt rfl rfl (by decide) ?_)) | (apply z0b; (first | refine z10 ?_ | apply z0d)) | (apply z0c; (first | apply z0f | apply z01 | refine z0h rfl ?_ | refine z0p rfl ?_)))
         all_goals try (exfalso; omega)
         all_goals exact z0g Tryz.func40 _ (z0j rfl rfl) ⟨congrArg (fun b => RV.v (B b)) hfin, rfl⟩
      · rw [hd, List.map_nil, zs3] at i3
        have ha := zqc i2 pl
        have hfin : (!decide (zr6 .u64 (S : Nat) (p.l : Nat) = 0)) = res := by
         rw [ha, ← i3, ← decide_not, decide_eq_decide]; omega
        repeat' (first | (apply z0e; (first | refine z11 rfl (by decide) ?_ | (apply z0a; (refine z00 (z0u rfl rfl rfl rfl) rfl rfl (by decide) ?_)) | (apply z07; (refine z00 (z04 rfl rfl) rfl rfl (by decide) ?_)) | (apply z13; (refine z00 z9k rfl rfl (by decide) ?_)) | refine z3m hlt rfl rfl (by decide) ?_)) | (apply z0b; (first | refine z10 ?_ | apply z0d | refine z2f rfl rfl (by decide) ?_)) | (apply z0c; (first | apply z0f | apply z01 | refine z0h rfl ?_ | refine z0p rfl ?_)))
        all_goals try (exfalso; omega)
        all_goals exact z0g Tryz.func40 _ (z0j rfl rfl) ⟨congrArg (fun b => RV.v (B b)) hfin, rfl⟩
 · have hne : (decide (val e = 0)) = false := decide_eq_false h0
   rw [hne, Bool.false_and, Bool.false_and] at hmt
   subst hmt
   obtain ⟨op, mn, mx, rs, ks⟩ := e
   rw [z3u] at hval ⊢
   refine z1c Tryz.func40 (by kernel_rfl) rfl (by simp) ?_
   dsimp only [Tryz.f40]
   repeat' (first | (apply z0e; (first | refine z11 rfl (by decide) ?_ | (apply z0a; (refine z00 (z3r rfl rfl rfl) rfl rfl (by decide) ?_)) | (apply z0o; (first | refine z2v hval rfl (by decide) ?_ | refine z2v hvd rfl (by decide) ?_)) | (apply z3b; (refine z0k (z2m rfl rfl (by decide)) ?_)))) | (apply z0b; (first | refine z10 ?_ | apply z0d | refine z2f rfl rfl (by decide) ?_ | refine z2s rfl rfl (fun _ => ?_) (fun _ => ?_))) | (apply z0c; (first | apply z0f | apply z01 | refine z0r rfl ?_ | apply z09 | refine z6x rfl (fun _ => ?_) (fun _ => ?_))))
   all_goals try (exfalso; omega)
   all_goals exact z0g Tryz.func40 _ (z0j rfl rfl) ⟨rfl, rfl⟩
end Go.Proofs.YtjmbjgecfpggdaaGreatDoor
namespace Go.Proofs.YtjmbjgecfpggdaaGreatDoor
open Go.Ab Go.Rx
set_option maxHeartbeats 20000000
set_option maxRecDepth 100000
attribute [local irreducible] Run Ops Op1 z2q Val Tr z1p z2j NF Rel z5b z5c z84
theorem zsk (c : Int) : z1p Tryz.prog 41 [I .i32 c] (.d (.slice (([c] : List Int).map zfh))) := by
 refine z2e fun H => ?_
 refine z1c Tryz.func41 (by kernel_rfl) rfl (by simp) ?_
 dsimp only [Tryz.f41]
 repeat' (first | (apply z0e; (first | refine z11 rfl (by decide) ?_ | (apply z27; (refine z29 rfl rfl rfl rfl rfl rfl rfl rfl (by decide) ?_)))) | (apply z0b; (first | refine z10 ?_ | apply z0d)) | (apply z0c; (first | apply z0f | apply z01)))
 all_goals exact z0g Tryz.func41 _ (z0j rfl rfl) ⟨rfl, rfl⟩
theorem zhi (v : Int) : (Utf8.encode v).size ≤ 4 := by
 have := z5s (Utf8.encode v)
 rw [z8p] at this
 have h4 : (ecL (zfz v)).length ≤ 4 := by
  unfold ecL
  repeat' split
  all_goals simp
 omega
theorem zq7 {t : ByteArray} {u : U} (h : rst t 0 = [u]) : 0 < t.size ∧ ((Utf8.decode t 0).1 : Int) = u.r ∧ (Utf8.decode t 0).2 = t.size := by
 have h0 : 0 < t.size := by
  false_or_by_contra
  rw [z34 (by omega)] at h; simp at h
 rw [z4b h0] at h
 simp only [List.cons.injEq] at h
 obtain ⟨rfl, h2⟩ := h
 have hw := z7e t 0 h0
 rw [zm1 (by omega)] at h2
 exact ⟨h0, rfl, by omega⟩
def C3 (x : Int) : List Int := [x, x - 32, x - 80]
theorem ziz (c : Int) (hc : Utf8.valid c = true) : z1p Tryz.prog 42 [I .i32 c] (.d (.slice ((zm9 c).map zfh))) := by
 refine z2e fun H => ?_
 have hse := zhi c
 have hfo := zoo (Utf8.encode c) (by omega)
 have hfe := zch hc
 have hvl := zbo hc
 have hre := zqo (z8m c)
 rw [zdp hvl, ← hfe] at hre
 obtain ⟨t, ht⟩ : ∃ t, za3 (Utf8.encode c) = t := ⟨_, rfl⟩
 have hvar : zm9 c = ([z8m c, z8m c - 32, z8m c - 80] : List Int).filter fun v => decide (0 ≤ v) && decide (za3 (Utf8.encode v) = t) := by rw [← ht]; rfl
 rw [ht] at hfo hre
 obtain ⟨d0, d1, d2⟩ := zq7 hre
 simp only at d1
 have hvb := z4f.1 hvl
 obtain ⟨r, hr⟩ : ∃ r, z8m c = r := ⟨_, rfl⟩
 rw [hr] at d1 hvb hvar
 have hcs : [r, r - 32, r - 80] = C3 r := rfl
 obtain ⟨kp, hkp⟩ : ∃ kp : Int → Bool, (fun v : Int => decide (0 ≤ v) && decide (za3 (Utf8.encode v) = t)) = kp := ⟨_, rfl⟩
 rw [hcs, hkp] at hvar
 refine z1c Tryz.func42 (by kernel_rfl) rfl (by simp) ?_
 dsimp only [Tryz.f42]
 repeat' (first | (apply z0e; (first | refine z11 rfl (by decide) ?_ | (apply z0o; (refine z2v hfo rfl (by decide) ?_)) | (apply z63; (refine z00 (z92 rfl rfl) rfl rfl (by decide) ?_)) | refine zab rfl rfl rfl (by decide) ?_)) | (apply z0b; (first | refine z10 ?_ | apply z0d)) | (apply z0c; (first | apply z0f | apply z01 | apply z03)))
 all_goals try (exfalso; omega)
 refine z3e 3 1000 21 1 rfl rfl rfl ?_
 refine z1x ?_
 refine z0s (z2u (fun q : Nat × List Int => ⟨43, [(3, .ref (0, 1000)), (4, S t), (13, .ptr (0, 13) 0)], [(13, .siter t q.1), (1000, .row 21 1 (q.2.map zfh))], H⟩)
  (fun q => (q.1 = 0 ∧ q.2 = []) ∨ (q.1 = t.size ∧ q.2 = zm9 c)) (fun q => t.size - q.1) ?_ (0, []) (.inl ⟨rfl, rfl⟩)) rfl rfl
 rintro ⟨q, l⟩ i1 ih
 simp only at i1 ih ⊢
 rcases i1 with ⟨rfl, rfl⟩ | ⟨rfl, rfl⟩
 · repeat' (first | (apply z0e; (first | refine z11 rfl (by decide) ?_ | (apply z13; (refine z00 (z42 (za2 (by omega) (by omega))) rfl rfl (by decide) ?_)) | (apply z1e; (refine z00 (z8y rfl) rfl rfl (by decide) ?_)) | (apply z27; (refine z29 rfl rfl rfl rfl rfl rfl rfl rfl (by decide) ?_)) | refine z3l d0 rfl rfl (by decide) ?_)) | (apply z0b; (first | refine z10 ?_ | apply z0d)) | (apply z0c; (first | apply z0f | apply z01 | refine z0r rfl ?_ | apply z09 | apply z03)))
   all_goals try (exfalso; omega)
   subst d1
   have hl3 : (C3 ((Utf8.decode t 0).1 : Nat)).length = 3 := rfl
   refine z1x ?_
   refine z0s (z2u (fun k : Nat × List Int => ⟨43, [(3, .ref (0, 1000)), (4, S t), (13, .ptr (0, 13) 0), (22, .d (.slice ((C3 ((Utf8.decode t 0).1 : Nat)).map zfh))), (23, I .i64 3), (24, I .i64 (k.1 : Nat))], [(13, .siter t t.size), (1000, .row 21 1 (k.2.map zfh))], H⟩)
    (fun k => k.1 ≤ 3 ∧ k.2 = ((C3 ((Utf8.decode t 0).1 : Nat)).take k.1).filter kp) (fun k => 3 - k.1) ?_ (0, []) ⟨Nat.zero_le _, rfl⟩) rfl (by rw [Nat.zero_add, d2]; rfl)
   rintro ⟨k, l⟩ ⟨m1, m2⟩ ihk
   simp only at m1 m2 ihk ⊢
   by_cases hk : k < 3
   · obtain ⟨v, hv⟩ : ∃ v, (C3 ((Utf8.decode t 0).1 : Nat))[k]? = some v := ⟨_, List.getElem?_eq_getElem (by omega)⟩
     have hvi : ((C3 ((Utf8.decode t 0).1 : Nat)).map zfh)[((k : Nat) : Int).toNat]? = some (zfh v) := by simp [hv]
     have hve := zhi v
     have hfv := zoo (Utf8.encode v) (by omega)
     have hst := z6g hv
     have hkv : kp v = (decide (0 ≤ v) && decide (za3 (Utf8.encode v) = t)) := by rw [← hkp]
     have hll : l.length ≤ 3 := by
      rw [m2]
      have := List.length_filter_le kp ((C3 ((Utf8.decode t 0).1 : Nat)).take k)
      rw [List.length_take] at this; omega
     cases hkk : kp v with
     | true =>
      rw [hkk] at hkv
      have hkv' := hkv.symm
      rw [Bool.and_eq_true, decide_eq_true_eq, decide_eq_true_eq] at hkv'
      have ihk' := ihk (k + 1, l ++ [v]) ⟨by simp only; omega, by simp only; rw [hst, List.filter_append, m2]; simp [hkk]⟩ (by simp only; omega)
      repeat' (first | (apply z0e; (first | refine z11 rfl (by decide) ?_ | (apply z0a; (refine z00 (z4s rfl rfl rfl) rfl rfl (by decide) ?_)) | (apply z1f; (refine z00 (z1b (ys := (C3 ((Utf8.decode t 0).1 : Nat)).map zfh) rfl (by omega) hvi rfl) rfl rfl (by decide) ?_)) | (apply z13; (refine z00 (z19 (z1o (by omega) (by omega))) rfl rfl (by decide) ?_)) | (apply z1e; (refine z2d (g := zfh) rfl rfl v rfl rfl rfl rfl rfl rfl rfl (by decide) (by omega) ?_)) | (apply z0o; (refine z2v hfv rfl (by decide) ?_)) | (apply z27; (refine z29 rfl rfl rfl rfl rfl rfl rfl rfl (by decide) ?_)) | (apply z63; (refine z00 (z92 rfl rfl) rfl rfl (by decide) ?_)))) | (apply z0b; (first | refine z10 ?_ | apply z0d | refine z2f rfl rfl (by decide) ?_ | refine z16 rfl rfl (fun _ => ?_) (fun _ => ?_))) | (apply z0c; (first | apply z0f | apply z01 | refine z0h rfl ?_ | apply z09 | apply z03 | apply z08 | refine z1i rfl (fun _ => ?_) (fun _ => ?_) | refine z0p rfl ?_)))
      all_goals try (exfalso; first | omega | exact absurd hkv'.2 (by assumption))
      all_goals refine z38 40 1000 rfl rfl ?_
      all_goals exact z0s ihk' rfl rfl
     | false =>
      rw [hkk] at hkv
      have hkn : ¬ (0 ≤ v ∧ za3 (Utf8.encode v) = t) := fun h => by
       rw [decide_eq_true h.1, decide_eq_true h.2] at hkv; cases hkv
      have ihk' := ihk (k + 1, l) ⟨by simp only; omega, by simp only; rw [hst, List.filter_append, m2]; simp [hkk]⟩ (by simp only; omega)
      repeat' (first | (apply z0e; (first | refine z11 rfl (by decide) ?_ | (apply z0a; (refine z00 (z4s rfl rfl rfl) rfl rfl (by decide) ?_)) | (apply z1f; (refine z00 (z1b (ys := (C3 ((Utf8.decode t 0).1 : Nat)).map zfh) rfl (by omega) hvi rfl) rfl rfl (by decide) ?_)) | (apply z13; (refine z00 (z19 (z1o (by omega) (by omega))) rfl rfl (by decide) ?_)) | (apply z1e; (refine z2d (g := zfh) rfl rfl v rfl rfl rfl rfl rfl rfl rfl (by decide) (by omega) ?_)) | (apply z0o; (refine z2v hfv rfl (by decide) ?_)) | (apply z27; (refine z29 rfl rfl rfl rfl rfl rfl rfl rfl (by decide) ?_)) | (apply z63; (refine z00 (z92 rfl rfl) rfl rfl (by decide) ?_)))) | (apply z0b; (first | refine z10 ?_ | apply z0d | refine z2f rfl rfl (by decide) ?_ | refine z16 rfl rfl (fun _ => ?_) (fun _ => ?_))) | (apply z0c; (first | apply z0f | apply z01 | refine z0h rfl ?_ | apply z09 | apply z03 | apply z08 | refine z1i rfl (fun _ => ?_) (fun _ => ?_) | refine z0p rfl ?_)))
      all_goals try (exfalso; first | omega | exact hkn ⟨by assumption, by assumption⟩)
      all_goals exact z0s ihk' rfl rfl
   · obtain rfl : k = 3 := by omega
     have m3 : l = zm9 c := by rw [m2, hvar]; rfl
     subst m3
     have ih' := ih (t.size, zm9 c) (.inr ⟨rfl, rfl⟩) (by simp only; omega)
     repeat' (first | (apply z0e; (refine z11 rfl (by decide) ?_)) | (apply z0b; (first | refine z10 ?_ | apply z0d)) | (apply z0c; (first | apply z0f | apply z01 | refine z0h rfl ?_ | apply z08 | refine z0p rfl ?_)))
     all_goals try (exfalso; omega)
     all_goals exact z0s ih' rfl rfl
 · repeat' (first | (apply z0e; (first | refine z11 rfl (by decide) ?_ | refine z3m (Nat.lt_irrefl _) rfl rfl (by decide) ?_)) | (apply z0b; (first | refine z10 ?_ | apply z0d)) | (apply z0c; (first | apply z0f | apply z01 | refine z0h rfl ?_ | refine z0p rfl ?_)))
   all_goals try (exfalso; omega)
   refine z1t 1000 rfl ?_
   skip
   all_goals try (exfalso; omega)
   all_goals exact z0g Tryz.func42 _ (z0j rfl rfl) ⟨rfl, rfl⟩
theorem zik (e : Rx) (hf : fit e) (s : ByteArray) (hs : s.size ≤ 1000000) : z1p Tryz.prog 22 [.d (Drx e), S s] (B (mtS (fun c => [c]) e s)) := by
 have hm := zkw 41 (fun c => [c]) (fun c _ => zsk c) (fun c => by simp) e hf s hs
 obtain ⟨b, hb⟩ : ∃ b, mtS (fun c => [c]) e s = b := ⟨_, rfl⟩
 rw [hb] at hm ⊢
 obtain ⟨op, mn, mx, rs, ks⟩ := e
 rw [z3u] at hm ⊢
 refine z2e fun H => ?_
 refine z1c Tryz.func22 (by kernel_rfl) rfl (by simp) ?_
 dsimp only [Tryz.f22]
 repeat' (first | (apply z0e; (first | refine z11 rfl (by decide) ?_ | (apply z0a; (refine z00 (z3r rfl rfl rfl) rfl rfl (by decide) ?_)) | (apply z0o; (refine z2v hm rfl (by decide) ?_)) | (apply z3b; (refine z0k (z2m rfl rfl (by decide)) ?_)))) | (apply z0b; (first | refine z10 ?_ | apply z0d)) | (apply z0c; (first | apply z0f | apply z01)))
 all_goals exact z0g Tryz.func22 _ (z0j rfl rfl) ⟨rfl, rfl⟩
theorem zn2 (c : Int) : (zm9 c).length ≤ 3 := List.length_filter_le _ _
theorem znm (e : Rx) (hf : fit e) (s : ByteArray) (hs : s.size ≤ 1000000) : z1p Tryz.prog 23 [.d (Drx e), S s] (B (mtS zm9 e s)) := by
 have hm := zkw 42 zm9 ziz zn2 e hf s hs
 obtain ⟨b, hb⟩ : ∃ b, mtS zm9 e s = b := ⟨_, rfl⟩
 rw [hb] at hm ⊢
 obtain ⟨op, mn, mx, rs, ks⟩ := e
 rw [z3u] at hm ⊢
 refine z2e fun H => ?_
 refine z1c Tryz.func23 (by kernel_rfl) rfl (by simp) ?_
 dsimp only [Tryz.f23]
 repeat' (first | (apply z0e; (first | refine z11 rfl (by decide) ?_ | (apply z0a; (refine z00 (z3r rfl rfl rfl) rfl rfl (by decide) ?_)) | (apply z0o; (refine z2v hm rfl (by decide) ?_)) | (apply z3b; (refine z0k (z2m rfl rfl (by decide)) ?_)))) | (apply z0b; (first | refine z10 ?_ | apply z0d)) | (apply z0c; (first | apply z0f | apply z01)))
 all_goals exact z0g Tryz.func23 _ (z0j rfl rfl) ⟨rfl, rfl⟩
end Go.Proofs.YtjmbjgecfpggdaaGreatDoor
namespace Go.Proofs.YtjmbjgecfpggdaaGreatDoor
open Go.Ab Go.Rx
set_option maxHeartbeats 20000000
set_option maxRecDepth 100000
attribute [local irreducible] Run Ops Op1 z2q Val Tr z1p z2j NF Rel z5b z5c z84
theorem ztv (e : Rx) (hf : fit e) : z1p Tryz.prog 21 [.d (Drx e)] (I .i64 (if val e = 0 then ps 65 e else 0)) := by
 refine z2e fun H => ?_
 have hval := z9v e hf
 by_cases h0 : val e = 0
 · have hpo := zbm e hf (zgi h0)
   rw [h0] at hval
   rw [if_pos h0]
   obtain ⟨op, mn, mx, rs, ks⟩ := e
   rw [z3u] at hval hpo ⊢
   refine z1c Tryz.func21 (by kernel_rfl) rfl (by simp) ?_
   dsimp only [Tryz.f21]
   repeat' (first | (apply z0e; (first | refine z11 rfl (by decide) ?_ | (apply z0a; (refine z00 (z3r rfl rfl rfl) rfl rfl (by decide) ?_)) | (apply z0o; (first | refine z2v hval rfl (by decide) ?_ | refine z2v hpo rfl (by decide) ?_)) | (apply z3b; (refine z0k (z2m rfl rfl (by decide)) ?_)))) | (apply z0b; (first | refine z10 ?_ | apply z0d)) | (apply z0c; (first | apply z0f | apply z01 | refine z0h rfl ?_ | apply z09)))
   all_goals try (exfalso; omega)
   all_goals exact z0g Tryz.func21 _ (z0j rfl rfl) ⟨rfl, rfl⟩
 · rw [if_neg h0]
   obtain ⟨op, mn, mx, rs, ks⟩ := e
   rw [z3u] at hval ⊢
   refine z1c Tryz.func21 (by kernel_rfl) rfl (by simp) ?_
   dsimp only [Tryz.f21]
   repeat' (first | (apply z0e; (first | refine z11 rfl (by decide) ?_ | (apply z0a; (refine z00 (z3r rfl rfl rfl) rfl rfl (by decide) ?_)) | (apply z0o; (refine z2v hval rfl (by decide) ?_)) | (apply z3b; (refine z0k (z2m rfl rfl (by decide)) ?_)))) | (apply z0b; (first | refine z10 ?_ | apply z0d)) | (apply z0c; (first | apply z0f | apply z01 | apply z09 | refine z2i rfl (fun _ => ?_) (fun _ => ?_))))
   all_goals try (exfalso; omega)
   all_goals exact z0g Tryz.func21 _ (z0j rfl rfl) ⟨rfl, rfl⟩
abbrev zn5 (c : Int) : Rx := .mk 1 0 0 [(c, c)] []
abbrev X2 : Rx := .mk 2 0 0 [] [.mk 4 2 5 [] [.mk 2 0 0 [] [zn5 97, zn5 98]], zn5 99]
abbrev s1 : ByteArray := ⟨#[97, 123, 51, 44, 50, 125]⟩
abbrev s2 : ByteArray := ⟨#[40, 97, 98, 41, 123, 50, 44, 53, 125, 99]⟩
abbrev s3 : ByteArray := ⟨#[195, 137]⟩
theorem zw6 : z4q s1 = (zau, 4, 8) := by rfl
theorem zw8 : z4q s2 = (X2, 0, 0) := by rfl
theorem zwa : z4q s3 = (zn5 201, 0, 0) := by rfl
theorem ztx : fit X2 := by simp [fit, zgv]
theorem zth : fit (zn5 201) := by simp [fit, zgv]
theorem zf5 {H : Hf} {A B : Blk} (h0 : H 0 700 = some A) (h1 : H 0 701 = some B) : upd (upd (upd (upd H (0, 700) .gone) (0, 701) .gone) (0, 700) A) (0, 701) B = H := by
 funext d s
 simp only [upd]
 by_cases a : d = 0 ∧ s = 701
 · rw [if_pos a, a.1, a.2, h1]
 rw [if_neg a]
 by_cases b : d = 0 ∧ s = 700
 · rw [if_pos b, b.1, b.2, h0]
 · rw [if_neg b, if_neg a, if_neg b]
theorem zr4 (τ : Tab) : z2j Tryz.prog 9 [] (zdq τ 0) [] (B true) := by
 refine z2k fun H hH => ?_
 have hX0 := hH ((0, 700), .glob 0 τ.o0) (by simp)
 have hX1 := hH ((0, 701), .glob 1 τ.o1) (by simp)
 have p1 := zen τ s1 (by decide)
 have p2 := zen τ s2 (by decide)
 have p3 := zen τ s3 (by decide)
 rw [zw6] at p1
 rw [zw8] at p2
 rw [zwa] at p3
 have q1 := ztv X2 ztx
 have q2 := zik X2 ztx ⟨#[97, 98, 97, 98, 99]⟩ (by decide)
 have q3 := znm (zn5 201) zth ⟨#[195, 169]⟩ (by decide)
 have q4 := zik (zn5 201) zth ⟨#[195, 169]⟩ (by decide)
 rw [show (if val X2 = 0 then ps 65 X2 else 0) = 11 by rfl] at q1
 rw [show mtS (fun c => [c]) X2 ⟨#[97, 98, 97, 98, 99]⟩ = true by rfl] at q2
 rw [show mtS zm9 (zn5 201) ⟨#[195, 169]⟩ = true by rfl] at q3
 rw [show mtS (fun c => [c]) (zn5 201) ⟨#[195, 169]⟩ = false by rfl] at q4
 refine z1c Tryz.func9 (by kernel_rfl) rfl (by simp) ?_
 dsimp only [Tryz.f9]
 refine z6y 700 0 700 hX0 rfl rfl ?_
 refine z6y 701 0 701 (z18 hX1 (by simp)) rfl rfl ?_
 repeat' (first | (apply z0e; (first | refine z11 rfl (by decide) ?_ | (apply z0a; (refine z00 (z15 rfl rfl rfl rfl) rfl rfl (by decide) ?_)) | (apply z0o; (first | refine z0m p3 rfl rfl (by decide) ?_ | refine z0m p2 rfl rfl (by decide) ?_ | refine z0m p1 rfl rfl (by decide) ?_ | refine z2v q1 rfl (by decide) ?_ | refine z2v q2 rfl (by decide) ?_ | refine z2v q3 rfl (by decide) ?_ | refine z2v q4 rfl (by decide) ?_)) | (apply z05; (refine z06 rfl rfl rfl rfl rfl rfl ?_)) | (apply z0n; (refine z0k (z0l rfl rfl (by decide)) ?_)))) | (apply z0b; (first | refine z10 ?_ | apply z0d)) | (apply z0c; (first | apply z0f | apply z01)))
 all_goals try (exfalso; first | omega | (simp at *; done))
 all_goals refine z52 700 0 700 (raw := .glob 0 τ.o0) rfl rfl (z18 (z43 _ (0, 700) _) (by simp)) rfl rfl ?_
 all_goals refine z52 701 0 701 (raw := .glob 1 τ.o1) rfl rfl (z18 (z43 _ (0, 701) _) (by simp)) rfl rfl ?_
 all_goals exact z0g Tryz.func9 _ (z0j rfl rfl) ⟨rfl, zf5 hX0 hX1⟩
end Go.Proofs.YtjmbjgecfpggdaaGreatDoor
