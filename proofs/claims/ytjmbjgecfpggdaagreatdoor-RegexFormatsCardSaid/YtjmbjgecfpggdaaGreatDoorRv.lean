/- A part of the proof: G29, G31, G32. -/
import Derived.Test.YtjmbjgecfpggdaaGreatDoorRq
import Derived.Test.YtjmbjgecfpggdaaGreatDoorRr
import Derived.Test.YtjmbjgecfpggdaaGreatDoorRp
import Derived.Test.YtjmbjgecfpggdaaGreatDoorRx
import Derived.Test.YtjmbjgecfpggdaaGreatDoorRu
set_option linter.all false
set_option linter.unusedVariables false
set_option linter.unusedSimpArgs false
namespace Go.Proofs.YtjmbjgecfpggdaaGreatDoor
open Go.Ab Go.Rx
set_option maxHeartbeats 20000000
set_option maxRecDepth 100000
attribute [local irreducible] Run Ops Op1 z2r Val Tr z1n z36 NF Rel z5q z5r zad
mutual
theorem zid : ∀ e : Rx, fit e → ztp (fun l => l.length ≤ 9223372036854775807) e
 | .mk op mn mx rs ks, h => by rw [fit] at h; rw [ztp]; exact ⟨h.1, zf5 ks h.2.2⟩
theorem zf5 : ∀ ks : List Rx, zcv ks → zgh (fun l => l.length ≤ 9223372036854775807) ks
 | [], _ => by rw [zgh]; trivial
 | k :: ks, h => by rw [zcv] at h; rw [zgh]; exact ⟨zid k h.1, zf5 ks h.2⟩
end
theorem zql (l : List Rg) (c : Int) : inB l c = inR l c := rfl
abbrev zet (x : Int) : List D := [zuh x]
theorem zoz : ∀ (l : List U) (i : Nat), (unF i l).all okU = l.all zrx
 | [], i => rfl
 | u :: l, i => by
  rw [unF, List.all_cons, List.all_cons, zoz l]
  congr 1
  simp only [okU, zrx]
  congr 1
  rw [decide_eq_decide]; omega
theorem zog (S : Nat) : ∀ (l : List Nat) (i acc : Nat), acc < 2 ^ 64 → (∀ x ∈ l, x < 2 ^ 64) → nxF S i acc l < 2 ^ 64
 | [], i, acc, h, _ => h
 | x :: l, i, acc, h, hl => by
  rw [nxF]
  refine zog S l _ _ ?_ (fun y hy => hl y (by simp [hy]))
  split
  · exact Nat.or_lt_two_pow h (hl x (by simp))
  · exact h
theorem ztr {e : Rx} (h : val e = 0) : Rx.pn e ≤ 64 := by
 rw [val] at h
 split at h
 · simp at h
 split at h
 · simp at h
 split at h
 · simp at h
 · omega
theorem zl6 (g : FuncId) (vs : Int → List Int) (hvs : ∀ c : Int, Utf8.valid c = true → z1n Tryz.prog g [I .i32 c] (.d (.slice ((vs c).map zet)))) (hvl : ∀ c, (vs c).length ≤ 3) (e : Rx) (hf : fit e) (s : ByteArray) (hs : s.size ≤ 1000000) :
  z1n Tryz.prog 40 [.d (Drx e), S s, .fn (.func g) [] []] (B (mtS vs e s)) := by
 refine z1u fun H => ?_
 have hval := z6f e hf
 have hvd := zqf s hs
 rw [zoz] at hvd
 change z1n Tryz.prog 55 [S s] (B (zr0 s)) at hvd
 have hmt : mtS vs e s = (decide (val e = 0) && zr0 s && Rx.mt (okV vs) e (zm3 s)) := rfl
 obtain ⟨res, hres⟩ : ∃ b, mtS vs e s = b := ⟨_, rfl⟩
 rw [hres] at hmt ⊢
 by_cases h0 : val e = 0
 · cases h1 : zr0 s with
   | false =>
    rw [h1, Bool.and_false, Bool.false_and] at hmt
    rw [h1] at hvd
    rw [h0] at hval
    subst hmt
    obtain ⟨op, mn, mx, rs, ks⟩ := e
    rw [z2h] at hval ⊢
    refine z16 Tryz.func40 (by kernel_rfl) rfl (by simp) ?_
    dsimp only [Tryz.f40]
    repeat' (first | (apply z0e; (first | refine z13 rfl (by decide) ?_ | (apply z09; (refine z00 (z2g rfl rfl rfl) rfl rfl (by decide) ?_)) | (apply z0l; (first | refine z1z hval rfl (by decide) ?_ | refine z1z hvd rfl (by decide) ?_)) | (apply z1y; (refine z0j (z27 rfl rfl (by decide)) ?_)))) | (apply z0f; (first | refine z0z ?_ | apply z0c)) | (apply z0d; (first | apply z0h | apply z01 | refine z0o rfl ?_)))
    all_goals try (exfalso; omega)
    all_goals exact z07 Tryz.func40 _ (z0a rfl rfl) ⟨rfl, rfl⟩
   | true =>
    rw [h1, h0, decide_eq_true rfl, Bool.true_and, Bool.true_and] at hmt
    rw [h1] at hvd
    have hvn := z74 h0
    have hpn := ztr h0
    have hof := zwi e hvn hf hpn
    have hbl := (zrz hvn).bl tb0 rfl
    have hfw := (zrz hvn).few tb0 rfl
    have hlv := zv2.1 e (zid e hf) tb0 (by simp)
    rw [h0] at hval
    dsimp only [ofB] at hof
    rw [Rx.mt] at hmt
    change res = mtF (okV vs) (bd e tb0).1 (bd e tb0).2 (zm3 s) at hmt
    generalize hB : bd e tb0 = r1 at *
    obtain ⟨t1, p⟩ := r1
    have hfw2 : (t1.lv.length : Int) ≤ Rx.pn e := by simpa using hfw
    obtain ⟨s2, pf, pl⟩ := hbl.sm ⟨rfl, by simp⟩ (by show t1.lv.length ≤ 64; omega)
    obtain ⟨lv, fo⟩ := t1
    have hl64 : lv.length ≤ 64 := by
     have : lv.length = (⟨lv, fo⟩ : Tb).lv.length := rfl
     omega
    have hfo : fo.length = lv.length := s2.len
    have hfx : ∀ x ∈ fo, x < 2 ^ 64 := s2.sm
    simp only at hlv pf pl hmt hof
    obtain ⟨op, mn, mx, rs, ks⟩ := e
    rw [z2h] at hval hof ⊢
    refine z16 Tryz.func40 (by kernel_rfl) rfl (by simp) ?_
    dsimp only [Tryz.f40]
    repeat' (first | (apply z0e; (first | refine z13 rfl (by decide) ?_ | (apply z09; (refine z00 (z2g rfl rfl rfl) rfl rfl (by decide) ?_)) | (apply z0l; (first | refine z1z hval rfl (by decide) ?_ | refine z1z hvd rfl (by decide) ?_ | (refine zrk rfl (hof _) (by decide) rfl (fun r H' h => ⟨_, h.1, h.2, rfl, rfl, ?_⟩)) /- zi5 -/)) | (apply z1y; (refine z0j (z27 rfl rfl (by decide)) ?_)) | refine zb5 rfl rfl rfl (by decide) ?_)) | (apply z0f; (first | refine z0z ?_ | apply z0c)) | (apply z0d; (first | apply z0h | apply z01 | refine z0g rfl ?_ | apply z06 | apply z02)))
    all_goals try (exfalso; omega)
    refine z2b ?_
    refine z0y (z3e (fun q : Nat × Nat × Bool => ⟨88, [(2, .fn (.func g) [] []), (7, .ptr (0, 26) 0), (8, I .u64 (q.2.1 : Nat)), (9, B q.2.2), (28, .ptr (0, 28) 0)], [(26, tbx lv p.f p.l fo p.nu), (28, .siter s q.1)], H⟩)
     (fun q => q.1 ≤ s.size ∧ q.2.1 < 2 ^ 64 ∧ ((q.2.2 = true ∧ q.1 = 0 ∧ q.2.1 = 0) ∨ (q.2.2 = false ∧ zrv (okV vs) ⟨lv, fo⟩ p.l q.2.1 ((rst s q.1).map (·.r)) = res))) (fun q => s.size - q.1) ?_ (0, 0, true) ⟨Nat.zero_le _, by decide, .inl ⟨rfl, rfl, rfl⟩⟩) rfl rfl
    rintro ⟨q, S, beg⟩ ⟨i1, i2, i3⟩ ih
    simp only at i1 i2 i3 ih ⊢
    by_cases hlt : q < s.size
    · have hd := z4m hlt
      have hw := z97 s q hlt
      have hcv := zf1 s q hlt
      have hvc := hvs _ hcv
      have hvl2 := hvl ((Utf8.decode s q).1 : Nat)
      have hnx := znd (X := 26) lv p.f p.l fo p.nu S i2 (by omega) hfx beg 0
      obtain ⟨N, hN⟩ : ∃ N, (if beg = true then p.f else nxF S 0 0 fo) = N := ⟨_, rfl⟩
      have hNl : N < 2 ^ 64 := by
       rw [← hN]
       split
       · exact pf
       · exact zog S fo 0 0 (by decide) hfx
      rw [hN] at hnx
      obtain ⟨c, hc⟩ : ∃ c, ((Utf8.decode s q).1 : Int) = c := ⟨_, rfl⟩
      obtain ⟨vl, hvle⟩ : ∃ vl, vs ((Utf8.decode s q).1 : Nat) = vl := ⟨_, rfl⟩
      rw [hvle] at hvc hvl2
      obtain ⟨S', hS'⟩ : ∃ S', rdF (okV vs) c N 0 0 lv = S' := ⟨_, rfl⟩
      have key : (S' = 0 → res = false) ∧ (S' ≠ 0 → zrv (okV vs) ⟨lv, fo⟩ p.l S' ((rst s (q + (Utf8.decode s q).2)).map (·.r)) = res) := by
       rcases i3 with ⟨rfl, rfl, rfl⟩ | ⟨rfl, i3⟩
       · rw [if_pos rfl] at hN
         subst hN
         rw [zm3, hd, List.map_cons, mtF] at hmt
         simp only [hc, hS'] at hmt
         constructor
         · intro h; rw [hmt, if_pos h]
         · intro h; rw [hmt, if_neg h]
       · rw [if_neg (by decide)] at hN
         rw [hd, List.map_cons, zrv] at i3
         simp only [hc, hN, hS'] at i3
         constructor
         · intro h; rw [← i3, if_pos h]
         · intro h; rw [if_neg h] at i3; exact i3
      have hS'l : S' < 2 ^ 64 := by rw [← hS']; exact zst _ _ _ hl64 (by decide)
      have hrv := zub vs c N lv
      rw [hS', ← hc, hvle] at hrv
      have hdl : ∀ v : Int, ∀ l : List Rg, l.length ≤ 9223372036854775807 → z1n Tryz.prog 58 [.d (rgs l), I .i32 v] (B (inB l v)) := fun v l h => zis l h v
      repeat' (first | (apply z0e; (first | refine z13 rfl (by decide) ?_ | (apply z1k; (refine z00 (z1p rfl) rfl rfl (by decide) ?_)) | (apply z0l; (first | refine z15 hnx rfl rfl (by decide) ?_ | (refine zr8 [] [] [I .i32 ((Utf8.decode s q).1 : Int)] (hvc.at _) rfl rfl (by decide) ?_) /- zi5 -/)) | refine z3y hlt rfl rfl (by decide) ?_)) | (apply z0f; (first | refine z0z ?_ | apply z0c)) | (apply z0d; (first | apply z0h | apply z01 | refine z0o rfl ?_ | apply z06 | apply z02)))
      all_goals try (exfalso; omega)
      refine z2b ?_
      refine z0y (z3e (fun j : Nat × Nat => ⟨88, [(2, .fn (.func g) [] []), (7, .ptr (0, 26) 0), (8, I .u64 (j.2 : Nat)), (9, B false), (12, I .u64 (N : Nat)), (28, .ptr (0, 28) 0), (38, .d (.slice (vl.map zet))), (39, I .i64 vl.length), (40, I .i64 (j.1 : Nat))], [(26, tbx lv p.f p.l fo p.nu), (28, .siter s (q + (Utf8.decode s q).2))], H⟩)
       (fun j => j.1 ≤ vl.length ∧ j.2 < 2 ^ 64 ∧ rdV N lv (vl.drop j.1) j.2 = S') (fun j => vl.length - j.1) ?_ (0, 0) ⟨Nat.zero_le _, by decide, hrv⟩) rfl rfl
      rintro ⟨j, A⟩ ⟨m1, m2, m3⟩ ihm
      simp only at m1 m2 m3 ihm ⊢
      by_cases hj : j < vl.length
      · obtain ⟨v, hv⟩ : ∃ v, vl[j]? = some v := ⟨_, List.getElem?_eq_getElem hj⟩
        rw [drop_cons hv, rdV] at m3
        obtain ⟨A', hA'⟩ : ∃ A', rdF (fun c l => inR l c) v N 0 A lv = A' := ⟨_, rfl⟩
        rw [hA'] at m3
        have hvi : (vl.map zet)[((j : Nat) : Int).toNat]? = some (zet v) := by simp [hv]
        repeat' (first | (apply z0e; (first | refine z13 rfl (by decide) ?_ | (apply z09; (first | refine z00 (z0k rfl rfl rfl rfl) rfl rfl (by decide) ?_ | refine z00 (z2q rfl rfl rfl) rfl rfl (by decide) ?_)) | (apply z08; (refine z00 (z03 rfl rfl) rfl rfl (by decide) ?_)) | (apply z1c; (refine z00 (z0t (ys := vl.map zet) rfl (by omega) hvi rfl) rfl rfl (by decide) ?_)) | (apply z1k; (refine z00 (z1p rfl) rfl rfl (by decide) ?_)))) | (apply z0f; (first | refine z0z ?_ | apply z0c)) | (apply z0d; (first | apply z0h | apply z01 | apply z06 | apply z02 | apply z04 | refine z1o rfl (fun _ => ?_) (fun _ => ?_) | refine z0r rfl ?_)))
        all_goals try (exfalso; omega)
        refine z2b ?_
        refine z0y (z3e (fun k : Nat × Nat => ⟨88, [(2, .fn (.func g) [] []), (7, .ptr (0, 26) 0), (8, I .u64 (k.2 : Nat)), (9, B false), (12, I .u64 (N : Nat)), (14, I .i32 v), (28, .ptr (0, 28) 0), (38, .d (.slice (vl.map zet))), (39, I .i64 vl.length), (40, I .i64 (j : Nat)), (47, .d (lvs lv)), (48, I .i64 lv.length), (49, I .i64 (k.1 : Nat))], [(26, tbx lv p.f p.l fo p.nu), (28, .siter s (q + (Utf8.decode s q).2))], H⟩)
         (fun k => k.1 ≤ lv.length ∧ k.2 < 2 ^ 64 ∧ rdF (fun c l => inR l c) v N k.1 k.2 (lv.drop k.1) = A') (fun k => lv.length - k.1) ?_ (0, A) ⟨Nat.zero_le _, m2, hA'⟩) rfl rfl
        rintro ⟨k, B'⟩ ⟨n1, n2, n3⟩ ihn
        simp only at n1 n2 n3 ihn ⊢
        by_cases hk : k < lv.length
        · obtain ⟨l, hl⟩ : ∃ l, lv[k]? = some l := ⟨_, List.getElem?_eq_getElem hk⟩
          have hlm := hlv l (List.mem_of_getElem? hl)
          have hcl := hdl v l hlm
          have hli : (lv.map fun r => [rgs r])[((k : Nat) : Int).toNat]? = some [rgs l] := by simp [hl]
          rw [zo9 _ _ _ hl] at n3
          have hbt := zr9 (S := N) (i := k) hNl (by omega)
          have hsh := ztc (i := k) (by omega)
          have hp2 : 2 ^ k < 2 ^ 64 := Nat.pow_lt_pow_right (by decide) (by omega)
          have hor := zqt n2 hp2
          rw [← hsh] at hor
          rw [zql] at hcl
          by_cases htb : N.testBit k = true
          · rw [if_pos htb] at hbt
            cases hin : inR l v with
            | true =>
             rw [if_pos ⟨htb, hin⟩] at n3
             rw [hin] at hcl
             have ihn' := ihn (k + 1, B' ||| 2 ^ k) ⟨by simp only; omega, Nat.or_lt_two_pow n2 hp2, n3⟩ (by simp only; omega)
             dsimp only at ihn'
             rw [← hor] at ihn'
             repeat' (first | (apply z0e; (first | refine z13 rfl (by decide) ?_ | (apply z09; (refine z00 (z2q rfl rfl rfl) rfl rfl (by decide) ?_)) | (apply z1c; (refine z00 (z0t (ys := lv.map fun r => [rgs r]) rfl (by omega) hli rfl) rfl rfl (by decide) ?_)) | (apply z19; (first | refine z00 (zfw (by omega)) rfl rfl (by decide) ?_ | refine z00 (zq6 (by omega)) rfl rfl (by decide) ?_ | refine z00 z8x rfl rfl (by decide) ?_ | refine z00 zcc rfl rfl (by decide) ?_ | refine z00 (z1e (z1s (by omega) (by omega))) rfl rfl (by decide) ?_)) | (apply z0l; (refine z1z hcl rfl (by decide) ?_)))) | (apply z0f; (first | refine z0z ?_ | apply z0c | refine z2e rfl rfl (by decide) ?_ | refine z0u rfl rfl (fun _ => ?_) (fun _ => ?_))) | (apply z0d; (first | apply z0h | apply z01 | refine z0o rfl ?_ | refine z0g rfl ?_ | apply z06 | apply z02 | apply z04 | refine z1o rfl (fun _ => ?_) (fun _ => ?_) | refine z0r rfl ?_)))
             all_goals try (exfalso; omega)
             all_goals exact z0y ihn' rfl rfl
            | false =>
             rw [if_neg (fun h => by rw [hin] at h; cases h.2)] at n3
             rw [hin] at hcl
             have ihn' := ihn (k + 1, B') ⟨by simp only; omega, n2, n3⟩ (by simp only; omega)
             repeat' (first | (apply z0e; (first | refine z13 rfl (by decide) ?_ | (apply z09; (refine z00 (z2q rfl rfl rfl) rfl rfl (by decide) ?_)) | (apply z1c; (refine z00 (z0t (ys := lv.map fun r => [rgs r]) rfl (by omega) hli rfl) rfl rfl (by decide) ?_)) | (apply z19; (first | refine z00 (zfw (by omega)) rfl rfl (by decide) ?_ | refine z00 z8x rfl rfl (by decide) ?_ | refine z00 (z1e (z1s (by omega) (by omega))) rfl rfl (by decide) ?_)) | (apply z0l; (refine z1z hcl rfl (by decide) ?_)))) | (apply z0f; (first | refine z0z ?_ | apply z0c | refine z2e rfl rfl (by decide) ?_ | refine z0u rfl rfl (fun _ => ?_) (fun _ => ?_))) | (apply z0d; (first | apply z0h | apply z01 | refine z0g rfl ?_ | apply z06 | apply z02 | apply z04 | refine z1o rfl (fun _ => ?_) (fun _ => ?_) | refine z0r rfl ?_)))
             all_goals try (exfalso; omega)
             all_goals exact z0y ihn' rfl rfl
          · rw [if_neg htb] at hbt
            rw [if_neg (fun h => htb h.1)] at n3
            have ihn' := ihn (k + 1, B') ⟨by simp only; omega, n2, n3⟩ (by simp only; omega)
            repeat' (first | (apply z0e; (first | refine z13 rfl (by decide) ?_ | (apply z09; (refine z00 (z2q rfl rfl rfl) rfl rfl (by decide) ?_)) | (apply z1c; (refine z00 (z0t (ys := lv.map fun r => [rgs r]) rfl (by omega) hli rfl) rfl rfl (by decide) ?_)) | (apply z19; (first | refine z00 (zfw (by omega)) rfl rfl (by decide) ?_ | refine z00 (zq6 (by omega)) rfl rfl (by decide) ?_ | refine z00 z8x rfl rfl (by decide) ?_ | refine z00 zcc rfl rfl (by decide) ?_ | refine z00 (z1e (z1s (by omega) (by omega))) rfl rfl (by decide) ?_)) | (apply z0l; (refine z1z hcl rfl (by decide) ?_)))) | (apply z0f; (first | refine z0z ?_ | apply z0c | refine z2e rfl rfl (by decide) ?_ | refine z0u rfl rfl (fun _ => ?_) (fun _ => ?_))) | (apply z0d; (first | apply z0h | apply z01 | refine z0g rfl ?_ | apply z06 | apply z02 | apply z04 | refine z1o rfl (fun _ => ?_) (fun _ => ?_) | refine z6t rfl (fun _ => ?_) (fun _ => ?_) | refine z0r rfl ?_)))
            all_goals try (exfalso; omega)
            all_goals exact z0y ihn' rfl rfl
        · obtain rfl : k = lv.length := by omega
          rw [List.drop_length, rdF] at n3
          subst n3
          have ihm' := ihm (j + 1, B') ⟨by simp only; omega, n2, m3⟩ (by simp only; omega)
          repeat' (first | (apply z0e; (first | refine z13 rfl (by decide) ?_ | (apply z19; (refine z00 (z1e (z1s (by omega) (by omega))) rfl rfl (by decide) ?_)))) | (apply z0f; (first | refine z0z ?_ | apply z0c)) | (apply z0d; (first | apply z0h | apply z01 | apply z06 | apply z02 | apply z04 | refine z1o rfl (fun _ => ?_) (fun _ => ?_) | refine z0r rfl ?_)))
          all_goals try (exfalso; omega)
          all_goals exact z0y ihm' rfl rfl
      · obtain rfl : j = vl.length := by omega
        rw [List.drop_length, rdV] at m3
        subst m3
        by_cases hA : A = 0
        · subst hA
          have hr := key.1 rfl
          subst hr
          repeat' (first | (apply z0e; (refine z13 rfl (by decide) ?_)) | (apply z0f; (first | refine z0z ?_ | apply z0c)) | (apply z0d; (first | apply z0h | apply z01 | refine z0o rfl ?_ | apply z06 | apply z02 | refine z1o rfl (fun _ => ?_) (fun _ => ?_) | refine z0r rfl ?_)))
          all_goals try (exfalso; omega)
          all_goals exact z07 Tryz.func40 _ (z0a rfl rfl) ⟨rfl, rfl⟩
        · have hr := key.2 hA
          have ih' := ih (q + (Utf8.decode s q).2, A, false) ⟨by simp only; omega, m2, .inr ⟨rfl, hr⟩⟩ (by simp only; omega)
          repeat' (first | (apply z0e; (refine z13 rfl (by decide) ?_)) | (apply z0f; (first | refine z0z ?_ | apply z0c)) | (apply z0d; (first | apply z0h | apply z01 | apply z06 | apply z02 | apply z04 | refine z1o rfl (fun _ => ?_) (fun _ => ?_) | refine z0r rfl ?_)))
          all_goals try (exfalso; omega)
          all_goals exact z0y ih' rfl rfl
    · obtain rfl : q = s.size := by omega
      have hd := z3m (s := s) (i := s.size) (Nat.le_refl _)
      rcases i3 with ⟨rfl, h0q, rfl⟩ | ⟨rfl, i3⟩
      · have hz : rst s 0 = [] := z3m (by omega)
        rw [zm3, hz, List.map_nil, mtF] at hmt
        subst hmt
        cases hnu : p.nu with
        | true =>
         repeat' (first | (apply z0e; (first | refine z13 rfl (by decide) ?_ | (apply z09; (refine z00 (z0k rfl rfl rfl rfl) rfl rfl (by decide) ?_)) | (apply z08; (refine z00 (z03 rfl rfl) rfl rfl (by decide) ?_)) | refine z3z hlt rfl rfl (by decide) ?_)) | (apply z0f; (first | refine z0z ?_ | apply z0c | refine z2e rfl rfl (by decide) ?_)) | (apply z0d; (first | apply z0h | apply z01 | refine z0g rfl ?_ | refine z0r rfl ?_)))
         all_goals try (exfalso; omega)
         all_goals exact z07 Tryz.func40 _ (z0a rfl rfl) ⟨rfl, rfl⟩
        | false =>
         have ha := zqv (a := 0) (b := p.l) (by decide) pl
         rw [Nat.zero_and] at ha
         have hfin : (!decide (zqh .u64 ((0 : Nat) : Int) (p.l : Nat) = 0)) = false := by rw [ha]; rfl
         repeat' (first | (apply z0e; (first | refine z13 rfl (by decide) ?_ | (apply z09; (refine z00 (z0k rfl rfl rfl rfl) rfl rfl (by decide) ?_)) | (apply z08; (refine z00 (z03 rfl rfl) rfl rfl (by decide) ?_)) | (apply z19; (refine z00 z8x rfl rfl (by decide) ?_)) | refine z3z hlt rfl rfl (by decide) ?_)) | (apply z0f; (first | refine z0z ?_ | apply z0c)) | (apply z0d; (first | apply z0h | apply z01 | refine z0g rfl ?_ | refine z0r rfl ?_)))
         all_goals try (exfalso; omega)
         all_goals exact z07 Tryz.func40 _ (z0a rfl rfl) ⟨congrArg (fun b => RV.v (B b)) hfin, rfl⟩
      · rw [hd, List.map_nil, zrv] at i3
        have ha := zqv i2 pl
        have hfin : (!decide (zqh .u64 (S : Nat) (p.l : Nat) = 0)) = res := by
         rw [ha, ← i3, ← decide_not, decide_eq_decide]; omega
        repeat' (first | (apply z0e; (first | refine z13 rfl (by decide) ?_ | (apply z09; (refine z00 (z0k rfl rfl rfl rfl) rfl rfl (by decide) ?_)) | (apply z08; (refine z00 (z03 rfl rfl) rfl rfl (by decide) ?_)) | (apply z19; (refine z00 z8x rfl rfl (by decide) ?_)) | refine z3z hlt rfl rfl (by decide) ?_)) | (apply z0f; (first | refine z0z ?_ | apply z0c | refine z2e rfl rfl (by decide) ?_)) | (apply z0d; (first | apply z0h | apply z01 | refine z0g rfl ?_ | refine z0r rfl ?_)))
        all_goals try (exfalso; omega)
        all_goals exact z07 Tryz.func40 _ (z0a rfl rfl) ⟨congrArg (fun b => RV.v (B b)) hfin, rfl⟩
 · have hne : (decide (val e = 0)) = false := decide_eq_false h0
   rw [hne, Bool.false_and, Bool.false_and] at hmt
   subst hmt
   obtain ⟨op, mn, mx, rs, ks⟩ := e
   rw [z2h] at hval ⊢
   refine z16 Tryz.func40 (by kernel_rfl) rfl (by simp) ?_
   dsimp only [Tryz.f40]
   repeat' (first | (apply z0e; (first | refine z13 rfl (by decide) ?_ | (apply z09; (refine z00 (z2g rfl rfl rfl) rfl rfl (by decide) ?_)) | (apply z0l; (first | refine z1z hval rfl (by decide) ?_ | refine z1z hvd rfl (by decide) ?_)) | (apply z1y; (refine z0j (z27 rfl rfl (by decide)) ?_)))) | (apply z0f; (first | refine z0z ?_ | apply z0c | refine z2e rfl rfl (by decide) ?_ | refine z3h rfl rfl (fun _ => ?_) (fun _ => ?_))) | (apply z0d; (first | apply z0h | apply z01 | refine z0o rfl ?_ | apply z06 | refine z6t rfl (fun _ => ?_) (fun _ => ?_))))
   all_goals try (exfalso; omega)
   all_goals exact z07 Tryz.func40 _ (z0a rfl rfl) ⟨rfl, rfl⟩
end Go.Proofs.YtjmbjgecfpggdaaGreatDoor
namespace Go.Proofs.YtjmbjgecfpggdaaGreatDoor
open Go.Ab Go.Rx
set_option maxHeartbeats 20000000
set_option maxRecDepth 100000
attribute [local irreducible] Run Ops Op1 z2r Val Tr z1n z36 NF Rel z5q z5r zad
theorem zu5 (c : Int) : z1n Tryz.prog 41 [I .i32 c] (.d (.slice (([c] : List Int).map zet))) := by
 refine z1u fun H => ?_
 refine z16 Tryz.func41 (by kernel_rfl) rfl (by simp) ?_
 dsimp only [Tryz.f41]
 repeat' (first | (apply z0e; (first | refine z13 rfl (by decide) ?_ | (apply z3p; (refine z3n rfl rfl rfl rfl rfl rfl rfl rfl (by decide) ?_)))) | (apply z0f; (first | refine z0z ?_ | apply z0c)) | (apply z0d; (first | apply z0h | apply z01)))
 all_goals exact z07 Tryz.func41 _ (z0a rfl rfl) ⟨rfl, rfl⟩
theorem zh2 (v : Int) : (Utf8.encode v).size ≤ 4 := by
 have := z4z (Utf8.encode v)
 rw [z6q] at this
 have h4 : (ecL (zav v)).length ≤ 4 := by
  unfold ecL
  repeat' split
  all_goals simp
 omega
theorem zrr {t : ByteArray} {u : U} (h : rst t 0 = [u]) : 0 < t.size ∧ ((Utf8.decode t 0).1 : Int) = u.r ∧ (Utf8.decode t 0).2 = t.size := by
 have h0 : 0 < t.size := by
  false_or_by_contra
  rw [z3m (by omega)] at h; simp at h
 rw [z4m h0] at h
 simp only [List.cons.injEq] at h
 obtain ⟨rfl, h2⟩ := h
 have hw := z97 t 0 h0
 rw [zm5 (by omega)] at h2
 exact ⟨h0, rfl, by omega⟩
def C3 (x : Int) : List Int := [x, x - 32, x - 80]
theorem ziw (c : Int) (hc : Utf8.valid c = true) : z1n Tryz.prog 42 [I .i32 c] (.d (.slice ((zmf c).map zet))) := by
 refine z1u fun H => ?_
 have hse := zh2 c
 have hfo := zp7 (Utf8.encode c) (by omega)
 have hfe := zcb hc
 have hvl := zbb hc
 have hre := zqe (z84 c)
 rw [zbr hvl, ← hfe] at hre
 obtain ⟨t, ht⟩ : ∃ t, z9g (Utf8.encode c) = t := ⟨_, rfl⟩
 have hvar : zmf c = ([z84 c, z84 c - 32, z84 c - 80] : List Int).filter fun v => decide (0 ≤ v) && decide (z9g (Utf8.encode v) = t) := by rw [← ht]; rfl
 rw [ht] at hfo hre
 obtain ⟨d0, d1, d2⟩ := zrr hre
 simp only at d1
 have hvb := z2z.1 hvl
 obtain ⟨r, hr⟩ : ∃ r, z84 c = r := ⟨_, rfl⟩
 rw [hr] at d1 hvb hvar
 have hcs : [r, r - 32, r - 80] = C3 r := rfl
 obtain ⟨kp, hkp⟩ : ∃ kp : Int → Bool, (fun v : Int => decide (0 ≤ v) && decide (z9g (Utf8.encode v) = t)) = kp := ⟨_, rfl⟩
 rw [hcs, hkp] at hvar
 refine z16 Tryz.func42 (by kernel_rfl) rfl (by simp) ?_
 dsimp only [Tryz.f42]
 repeat' (first | (apply z0e; (first | refine z13 rfl (by decide) ?_ | (apply z0l; (refine z1z hfo rfl (by decide) ?_)) | (apply z4p; (refine z00 (z4v rfl rfl) rfl rfl (by decide) ?_)) | refine zb5 rfl rfl rfl (by decide) ?_)) | (apply z0f; (first | refine z0z ?_ | apply z0c)) | (apply z0d; (first | apply z0h | apply z01 | apply z02)))
 all_goals try (exfalso; omega)
 refine z4l 3 1000 21 1 rfl rfl rfl ?_
 refine z2b ?_
 refine z0y (z3e (fun q : Nat × List Int => ⟨43, [(3, .ref (0, 1000)), (4, S t), (13, .ptr (0, 13) 0)], [(13, .siter t q.1), (1000, .row 21 1 (q.2.map zet))], H⟩)
  (fun q => (q.1 = 0 ∧ q.2 = []) ∨ (q.1 = t.size ∧ q.2 = zmf c)) (fun q => t.size - q.1) ?_ (0, []) (.inl ⟨rfl, rfl⟩)) rfl rfl
 rintro ⟨q, l⟩ i1 ih
 simp only at i1 ih ⊢
 rcases i1 with ⟨rfl, rfl⟩ | ⟨rfl, rfl⟩
 · repeat' (first | (apply z0e; (first | refine z13 rfl (by decide) ?_ | (apply z19; (refine z00 (z4a (za5 (by omega) (by omega))) rfl rfl (by decide) ?_)) | (apply z1k; (refine z00 (zns rfl) rfl rfl (by decide) ?_)) | (apply z3p; (refine z3n rfl rfl rfl rfl rfl rfl rfl rfl (by decide) ?_)) | refine z3y d0 rfl rfl (by decide) ?_)) | (apply z0f; (first | refine z0z ?_ | apply z0c)) | (apply z0d; (first | apply z0h | apply z01 | refine z0o rfl ?_ | apply z06 | apply z02)))
   all_goals try (exfalso; omega)
   subst d1
   have hl3 : (C3 ((Utf8.decode t 0).1 : Nat)).length = 3 := rfl
   refine z2b ?_
   refine z0y (z3e (fun k : Nat × List Int => ⟨43, [(3, .ref (0, 1000)), (4, S t), (13, .ptr (0, 13) 0), (22, .d (.slice ((C3 ((Utf8.decode t 0).1 : Nat)).map zet))), (23, I .i64 3), (24, I .i64 (k.1 : Nat))], [(13, .siter t t.size), (1000, .row 21 1 (k.2.map zet))], H⟩)
    (fun k => k.1 ≤ 3 ∧ k.2 = ((C3 ((Utf8.decode t 0).1 : Nat)).take k.1).filter kp) (fun k => 3 - k.1) ?_ (0, []) ⟨Nat.zero_le _, rfl⟩) rfl (by rw [Nat.zero_add, d2]; rfl)
   rintro ⟨k, l⟩ ⟨m1, m2⟩ ihk
   simp only at m1 m2 ihk ⊢
   by_cases hk : k < 3
   · obtain ⟨v, hv⟩ : ∃ v, (C3 ((Utf8.decode t 0).1 : Nat))[k]? = some v := ⟨_, List.getElem?_eq_getElem (by omega)⟩
     have hvi : ((C3 ((Utf8.decode t 0).1 : Nat)).map zet)[((k : Nat) : Int).toNat]? = some (zet v) := by simp [hv]
     have hve := zh2 v
     have hfv := zp7 (Utf8.encode v) (by omega)
     have hst := z4r hv
     have hkv : kp v = (decide (0 ≤ v) && decide (z9g (Utf8.encode v) = t)) := by rw [← hkp]
     have hll : l.length ≤ 3 := by
      rw [m2]
      have := List.length_filter_le kp ((C3 ((Utf8.decode t 0).1 : Nat)).take k)
      rw [List.length_take] at this; omega
     cases hkk : kp v with
     | true =>
      rw [hkk] at hkv
      have hkv' := hkv.symm
      rw [Bool.and_eq_true, decide_eq_true_eq, decide_eq_true_eq] at hkv'
      have ihk' := ihk (k + 1, l ++ [v]) ⟨by simp only; omega, by simp only; rw [hst, List.filter_append, m2]; simp [hkk]⟩ (by simp only; omega)
      repeat' (first | (apply z0e; (first | refine z13 rfl (by decide) ?_ | (apply z09; (refine z00 (z2q rfl rfl rfl) rfl rfl (by decide) ?_)) | (apply z1c; (refine z00 (z0t (ys := (C3 ((Utf8.decode t 0).1 : Nat)).map zet) rfl (by omega) hvi rfl) rfl rfl (by decide) ?_)) | (apply z19; (refine z00 (z1e (z1s (by omega) (by omega))) rfl rfl (by decide) ?_)) | (apply z1k; (refine z4s (g := zet) rfl rfl v rfl rfl rfl rfl rfl rfl rfl (by decide) (by omega) ?_)) | (apply z0l; (refine z1z hfv rfl (by decide) ?_)) | (apply z3p; (refine z3n rfl rfl rfl rfl rfl rfl rfl rfl (by decide) ?_)) | (apply z4p; (refine z00 (z4v rfl rfl) rfl rfl (by decide) ?_)))) | (apply z0f; (first | refine z0z ?_ | apply z0c | refine z2e rfl rfl (by decide) ?_ | refine z0u rfl rfl (fun _ => ?_) (fun _ => ?_))) | (apply z0d; (first | apply z0h | apply z01 | refine z0g rfl ?_ | apply z06 | apply z02 | apply z04 | refine z1o rfl (fun _ => ?_) (fun _ => ?_) | refine z0r rfl ?_)))
      all_goals try (exfalso; first | omega | exact absurd hkv'.2 (by assumption))
      all_goals refine z73 40 1000 rfl rfl ?_
      all_goals exact z0y ihk' rfl rfl
     | false =>
      rw [hkk] at hkv
      have hkn : ¬ (0 ≤ v ∧ z9g (Utf8.encode v) = t) := fun h => by
       rw [decide_eq_true h.1, decide_eq_true h.2] at hkv; cases hkv
      have ihk' := ihk (k + 1, l) ⟨by simp only; omega, by simp only; rw [hst, List.filter_append, m2]; simp [hkk]⟩ (by simp only; omega)
      repeat' (first | (apply z0e; (first | refine z13 rfl (by decide) ?_ | (apply z09; (refine z00 (z2q rfl rfl rfl) rfl rfl (by decide) ?_)) | (apply z1c; (refine z00 (z0t (ys := (C3 ((Utf8.decode t 0).1 : Nat)).map zet) rfl (by omega) hvi rfl) rfl rfl (by decide) ?_)) | (apply z19; (refine z00 (z1e (z1s (by omega) (by omega))) rfl rfl (by decide) ?_)) | (apply z1k; (refine z4s (g := zet) rfl rfl v rfl rfl rfl rfl rfl rfl rfl (by decide) (by omega) ?_)) | (apply z0l; (refine z1z hfv rfl (by decide) ?_)) | (apply z3p; (refine z3n rfl rfl rfl rfl rfl rfl rfl rfl (by decide) ?_)) | (apply z4p; (refine z00 (z4v rfl rfl) rfl rfl (by decide) ?_)))) | (apply z0f; (first | refine z0z ?_ | apply z0c | refine z2e rfl rfl (by decide) ?_ | refine z0u rfl rfl (fun _ => ?_) (fun _ => ?_))) | (apply z0d; (first | apply z0h | apply z01 | refine z0g rfl ?_ | apply z06 | apply z02 | apply z04 | refine z1o rfl (fun _ => ?_) (fun _ => ?_) | refine z0r rfl ?_)))
      all_goals try (exfalso; first | omega | exact hkn ⟨by assumption, by assumption⟩)
      all_goals exact z0y ihk' rfl rfl
   · obtain rfl : k = 3 := by omega
     have m3 : l = zmf c := by rw [m2, hvar]; rfl
     subst m3
     have ih' := ih (t.size, zmf c) (.inr ⟨rfl, rfl⟩) (by simp only; omega)
     repeat' (first | (apply z0e; (refine z13 rfl (by decide) ?_)) | (apply z0f; (first | refine z0z ?_ | apply z0c)) | (apply z0d; (first | apply z0h | apply z01 | refine z0g rfl ?_ | apply z04 | refine z0r rfl ?_)))
     all_goals try (exfalso; omega)
     all_goals exact z0y ih' rfl rfl
 · repeat' (first | (apply z0e; (first | refine z13 rfl (by decide) ?_ | refine z3z (Nat.lt_irrefl _) rfl rfl (by decide) ?_)) | (apply z0f; (first | refine z0z ?_ | apply z0c)) | (apply z0d; (first | apply z0h | apply z01 | refine z0g rfl ?_ | refine z0r rfl ?_)))
   all_goals try (exfalso; omega)
   refine z4u 1000 rfl ?_
   skip
   all_goals try (exfalso; omega)
   all_goals exact z07 Tryz.func42 _ (z0a rfl rfl) ⟨rfl, rfl⟩
theorem zhw (e : Rx) (hf : fit e) (s : ByteArray) (hs : s.size ≤ 1000000) : z1n Tryz.prog 22 [.d (Drx e), S s] (B (mtS (fun c => [c]) e s)) := by
 have hm := zl6 41 (fun c => [c]) (fun c _ => zu5 c) (fun c => by simp) e hf s hs
 obtain ⟨b, hb⟩ : ∃ b, mtS (fun c => [c]) e s = b := ⟨_, rfl⟩
 rw [hb] at hm ⊢
 obtain ⟨op, mn, mx, rs, ks⟩ := e
 rw [z2h] at hm ⊢
 refine z1u fun H => ?_
 refine z16 Tryz.func22 (by kernel_rfl) rfl (by simp) ?_
 dsimp only [Tryz.f22]
 repeat' (first | (apply z0e; (first | refine z13 rfl (by decide) ?_ | (apply z09; (refine z00 (z2g rfl rfl rfl) rfl rfl (by decide) ?_)) | (apply z0l; (refine z1z hm rfl (by decide) ?_)) | (apply z1y; (refine z0j (z27 rfl rfl (by decide)) ?_)))) | (apply z0f; (first | refine z0z ?_ | apply z0c)) | (apply z0d; (first | apply z0h | apply z01)))
 all_goals exact z07 Tryz.func22 _ (z0a rfl rfl) ⟨rfl, rfl⟩
theorem znv (c : Int) : (zmf c).length ≤ 3 := List.length_filter_le _ _
theorem zmk (e : Rx) (hf : fit e) (s : ByteArray) (hs : s.size ≤ 1000000) : z1n Tryz.prog 23 [.d (Drx e), S s] (B (mtS zmf e s)) := by
 have hm := zl6 42 zmf ziw znv e hf s hs
 obtain ⟨b, hb⟩ : ∃ b, mtS zmf e s = b := ⟨_, rfl⟩
 rw [hb] at hm ⊢
 obtain ⟨op, mn, mx, rs, ks⟩ := e
 rw [z2h] at hm ⊢
 refine z1u fun H => ?_
 refine z16 Tryz.func23 (by kernel_rfl) rfl (by simp) ?_
 dsimp only [Tryz.f23]
 repeat' (first | (apply z0e; (first | refine z13 rfl (by decide) ?_ | (apply z09; (refine z00 (z2g rfl rfl rfl) rfl rfl (by decide) ?_)) | (apply z0l; (refine z1z hm rfl (by decide) ?_)) | (apply z1y; (refine z0j (z27 rfl rfl (by decide)) ?_)))) | (apply z0f; (first | refine z0z ?_ | apply z0c)) | (apply z0d; (first | apply z0h | apply z01)))
 all_goals exact z07 Tryz.func23 _ (z0a rfl rfl) ⟨rfl, rfl⟩
end Go.Proofs.YtjmbjgecfpggdaaGreatDoor
namespace Go.Proofs.YtjmbjgecfpggdaaGreatDoor
open Go.Ab Go.Rx
set_option maxHeartbeats 20000000
set_option maxRecDepth 100000
attribute [local irreducible] Run Ops Op1 z2r Val Tr z1n z36 NF Rel z5q z5r zad
theorem zsp (e : Rx) (hf : fit e) : z1n Tryz.prog 21 [.d (Drx e)] (I .i64 (if val e = 0 then ps 65 e else 0)) := by
 refine z1u fun H => ?_
 have hval := z6f e hf
 by_cases h0 : val e = 0
 · have hpo := zbq e hf (z74 h0)
   rw [h0] at hval
   rw [if_pos h0]
   obtain ⟨op, mn, mx, rs, ks⟩ := e
   rw [z2h] at hval hpo ⊢
   refine z16 Tryz.func21 (by kernel_rfl) rfl (by simp) ?_
   dsimp only [Tryz.f21]
   repeat' (first | (apply z0e; (first | refine z13 rfl (by decide) ?_ | (apply z09; (refine z00 (z2g rfl rfl rfl) rfl rfl (by decide) ?_)) | (apply z0l; (first | refine z1z hval rfl (by decide) ?_ | refine z1z hpo rfl (by decide) ?_)) | (apply z1y; (refine z0j (z27 rfl rfl (by decide)) ?_)))) | (apply z0f; (first | refine z0z ?_ | apply z0c)) | (apply z0d; (first | apply z0h | apply z01 | refine z0g rfl ?_ | apply z06)))
   all_goals try (exfalso; omega)
   all_goals exact z07 Tryz.func21 _ (z0a rfl rfl) ⟨rfl, rfl⟩
 · rw [if_neg h0]
   obtain ⟨op, mn, mx, rs, ks⟩ := e
   rw [z2h] at hval ⊢
   refine z16 Tryz.func21 (by kernel_rfl) rfl (by simp) ?_
   dsimp only [Tryz.f21]
   repeat' (first | (apply z0e; (first | refine z13 rfl (by decide) ?_ | (apply z09; (refine z00 (z2g rfl rfl rfl) rfl rfl (by decide) ?_)) | (apply z0l; (refine z1z hval rfl (by decide) ?_)) | (apply z1y; (refine z0j (z27 rfl rfl (by decide)) ?_)))) | (apply z0f; (first | refine z0z ?_ | apply z0c)) | (apply z0d; (first | apply z0h | apply z01 | apply z06 | refine z2w rfl (fun _ => ?_) (fun _ => ?_))))
   all_goals try (exfalso; omega)
   all_goals exact z07 Tryz.func21 _ (z0a rfl rfl) ⟨rfl, rfl⟩
abbrev zne (c : Int) : Rx := .mk 1 0 0 [(c, c)] []
abbrev X2 : Rx := .mk 2 0 0 [] [.mk 4 2 5 [] [.mk 2 0 0 [] [zne 97, zne 98]], zne 99]
abbrev s1 : ByteArray := ⟨#[97, 123, 51, 44, 50, 125]⟩
abbrev s2 : ByteArray := ⟨#[40, 97, 98, 41, 123, 50, 44, 53, 125, 99]⟩
abbrev s3 : ByteArray := ⟨#[195, 137]⟩
theorem zwb : z7y s1 = (zc8, 4, 8) := by rfl
theorem zwe : z7y s2 = (X2, 0, 0) := by rfl
theorem zwd : z7y s3 = (zne 201, 0, 0) := by rfl
theorem zsx : fit X2 := by simp [fit, zcv]
theorem zte : fit (zne 201) := by simp [fit, zcv]
theorem z6e {H : Hf} {A B : Blk} (h0 : H 0 700 = some A) (h1 : H 0 701 = some B) : upd (upd (upd (upd H (0, 700) .gone) (0, 701) .gone) (0, 700) A) (0, 701) B = H := by
 funext d s
 simp only [upd]
 by_cases a : d = 0 ∧ s = 701
 · rw [if_pos a, a.1, a.2, h1]
 rw [if_neg a]
 by_cases b : d = 0 ∧ s = 700
 · rw [if_pos b, b.1, b.2, h0]
 · rw [if_neg b, if_neg a, if_neg b]
theorem zkq (τ : Tab) : z36 Tryz.prog 9 [] (zd9 τ 0) [] (B true) := by
 refine z42 fun H hH => ?_
 have hX0 := hH ((0, 700), .glob 0 τ.o0) (by simp)
 have hX1 := hH ((0, 701), .glob 1 τ.o1) (by simp)
 have p1 := zen τ s1 (by decide)
 have p2 := zen τ s2 (by decide)
 have p3 := zen τ s3 (by decide)
 rw [zwb] at p1
 rw [zwe] at p2
 rw [zwd] at p3
 have q1 := zsp X2 zsx
 have q2 := zhw X2 zsx ⟨#[97, 98, 97, 98, 99]⟩ (by decide)
 have q3 := zmk (zne 201) zte ⟨#[195, 169]⟩ (by decide)
 have q4 := zhw (zne 201) zte ⟨#[195, 169]⟩ (by decide)
 rw [show (if val X2 = 0 then ps 65 X2 else 0) = 11 by rfl] at q1
 rw [show mtS (fun c => [c]) X2 ⟨#[97, 98, 97, 98, 99]⟩ = true by rfl] at q2
 rw [show mtS zmf (zne 201) ⟨#[195, 169]⟩ = true by rfl] at q3
 rw [show mtS (fun c => [c]) (zne 201) ⟨#[195, 169]⟩ = false by rfl] at q4
 refine z16 Tryz.func9 (by kernel_rfl) rfl (by simp) ?_
 dsimp only [Tryz.f9]
 refine z4n 700 0 700 hX0 rfl rfl ?_
 refine z4n 701 0 701 (z0v hX1 (by simp)) rfl rfl ?_
 repeat' (first | (apply z0e; (first | refine z13 rfl (by decide) ?_ | (apply z09; (refine z00 (z1a rfl rfl rfl rfl) rfl rfl (by decide) ?_)) | (apply z0l; (first | refine z15 p3 rfl rfl (by decide) ?_ | refine z15 p2 rfl rfl (by decide) ?_ | refine z15 p1 rfl rfl (by decide) ?_ | refine z1z q1 rfl (by decide) ?_ | refine z1z q2 rfl (by decide) ?_ | refine z1z q3 rfl (by decide) ?_ | refine z1z q4 rfl (by decide) ?_)) | (apply z0i; (refine z0b rfl rfl rfl rfl rfl rfl ?_)) | (apply z0q; (refine z0j (z0p rfl rfl (by decide)) ?_)))) | (apply z0f; (first | refine z0z ?_ | apply z0c)) | (apply z0d; (first | apply z0h | apply z01)))
 all_goals try (exfalso; first | omega | (simp at *; done))
 all_goals refine z3q 700 0 700 (raw := .glob 0 τ.o0) rfl rfl (z0v (z2i _ (0, 700) _) (by simp)) rfl rfl ?_
 all_goals refine z3q 701 0 701 (raw := .glob 1 τ.o1) rfl rfl (z0v (z2i _ (0, 701) _) (by simp)) rfl rfl ?_
 all_goals exact z07 Tryz.func9 _ (z0a rfl rfl) ⟨rfl, z6e hX0 hX1⟩
end Go.Proofs.YtjmbjgecfpggdaaGreatDoor
