import Derived.Test.YtnddifenlamhjaaRd
namespace Go.Proofs.Ytnddifenlamhjaa
open Go.RowKit
set_option linter.unusedVariables false

theorem S_eq {g g' : Nat → Nat} : ∀ (k : Nat), (∀ i, i < k → g i = g' i) → S g k = S g' k
  | 0, _ => rfl
  | k + 1, h => by rw [S, S, S_eq k (fun i hi => h i (by omega)), h k (by omega)]
theorem fl_get (g : Nat → Nat) (n i : Nat) (h : i < n) : (fl g n).getD i 0 = g i := by
  unfold fl
  simp [List.getElem?_map, List.getElem?_range h]
theorem fl_len (g : Nat → Nat) (n : Nat) : (fl g n).length = n := by simp [fl]
/-- What they come to, as a number of 64 bits, has these bytes just if nothing is odd with the last one. -/
theorem enc_mod (g : Nat → Nat) (k : Nat) (h9 : k ≤ 9) (hm : ∀ j, j < k → 128 ≤ g j) (hg : ∀ i, g i < 256) (hl : g k < 128) :
    (enc (S g (k + 1) % 18446744073709551616) = fl g (k + 1) ↔ ¬ bad g k) ∧ (¬ bad g k → S g (k + 1) % 18446744073709551616 = S g (k + 1)) := by
  have hp9 : (128 : Nat) ^ 9 = 9223372036854775808 := by decide
  have hlt : ¬ bad g k → S g (k + 1) < 18446744073709551616 := by
    intro hb
    have h1 := S_lt g k
    by_cases e : k = 9
    · subst e
      have hb2 : g 9 ≤ 1 := by unfold bad at hb; omega
      have h2 : (g 9 % 128) * 128 ^ 9 ≤ 1 * 128 ^ 9 := Nat.mul_le_mul_right _ (by omega)
      rw [S]; omega
    · have h2 := S_lt g (k + 1)
      have h3 : (128 : Nat) ^ (k + 1) ≤ 128 ^ 9 := Nat.pow_le_pow_right (by omega) (by omega)
      omega
  refine ⟨⟨fun he hb => ?_, fun hb => ?_⟩, fun hb => Nat.mod_eq_of_lt (hlt hb)⟩
  · have hm64 : S g (k + 1) % 18446744073709551616 < 18446744073709551616 := Nat.mod_lt _ (by omega)
    generalize S g (k + 1) % 18446744073709551616 = m at he hm64
    obtain ⟨_, _, h3, h4⟩ := eg_spec m
    have hlen : (enc m).length = k + 1 := by rw [he, fl_len]
    have heq : ∀ i, i < k + 1 → eg m i = g i := fun i hi => by unfold eg; rw [he, fl_get g (k + 1) i hi]
    rw [hlen, S_eq (k + 1) heq] at h4
    rw [hlen, show k + 1 - 1 = k by omega, heq k (by omega)] at h3
    unfold bad at hb
    rcases hb with ⟨z0, z1⟩ | ⟨e, z1⟩
    · omega
    · subst e
      have h2 : 2 * 128 ^ 9 ≤ (g 9 % 128) * 128 ^ 9 := Nat.mul_le_mul_right _ (by omega)
      rw [S] at h4
      omega
  · rw [Nat.mod_eq_of_lt (hlt hb)]
    exact enc_S k g (fun i hi => ⟨hm i hi, hg i⟩) hl (by unfold bad at hb; omega)

/-- What the bytes from j to k come to, as a number of 64 bits. -/
def D (g : Nat → Nat) (j k : Nat) : Nat := S (fun t => g (j + t)) (k + 1 - j) % 18446744073709551616
theorem D_end (g : Nat → Nat) (k : Nat) : D g (k + 1) k = 0 := by unfold D; rw [Nat.sub_self]; rfl
theorem D_all (g : Nat → Nat) (k : Nat) : D g 0 k = S g (k + 1) % 18446744073709551616 := by unfold D; simp
theorem D_step (g : Nat → Nat) (j k : Nat) (h : j ≤ k) (hg : g j < 256) :
    IntKind.u64.wrap (IntKind.u64.wrap ((D g (j + 1) k : Nat) * 128 : Int) + ((g j : Nat) : Int) % 128) = ((D g j k : Nat) : Int) := by
  unfold D
  rw [show k + 1 - j = (k + 1 - (j + 1)) + 1 by omega, S_shift]
  have e : (fun i => (fun t => g (j + t)) (i + 1)) = (fun t => g (j + 1 + t)) := funext fun t => by show g (j + (t + 1)) = _; rw [show j + (t + 1) = j + 1 + t by omega]
  rw [e]
  generalize S (fun t => g (j + 1 + t)) (k + 1 - (j + 1)) = z
  simp only [Nat.add_zero, IntKind.wrap_u64]
  omega

set_option maxRecDepth 100000 in
set_option maxHeartbeats 1000000 in
theorem rtake_len (b off n c : Nat) (g : Nat → Nat) (w : World) (x k0 e0 : Nat) (hT : tkF g n = (x, k0, e0)) (hn : 0 < n) (hc : n ≤ c) (hcap : c ≤ 9223372036854775807) (hbw : b < w.heap.size)
    (hcell : ∀ i, i < n → w.cell? ⟨b, off + i, none⟩ = some (.int .u8 (g i : Nat))) (hr : ∀ i, g i < 256) (M : Nat) (hM : M = min n 10) :
    Calls Try.prog 12 #[.slice (some ⟨b, off, none⟩) n c] w fun e w' => e = .returned (.tuple #[.int .u64 x, .int .i64 k0, .int .i64 e0]) ∧ Below w.heap.size w w' := by
  have HT := Lib.hid hT
  have HM := Lib.hid hM
  clear hT hM
  go_enter Try.func12, Try.ntmps12
  have hM' := HM.out
  by_cases h10 : 10 < n
  · obtain rfl : M = 10 := by omega
    clear hM'
    go_wp2
    go_loop [6] (fun i => ∃ k : Nat, k ≤ 10 ∧ i = .int .i64 k ∧ ∀ j, j < k → 128 ≤ g j) (fun i => 10 - (intOf i).toNat)
    case atStart => exact ⟨0, by omega, rfl, fun j hj => by omega⟩
    case round =>
      obtain ⟨k, hk, rfl, hj⟩ := hrel
      have HJ := Lib.hid hj
      clear hj
      by_cases hlt : k < 10
      · have hck := hcell k (by omega)
        have hrk := hr k
        by_cases h128 : 128 ≤ g k
        · have hb : (128 : Int) ≤ ((g k : Nat) : Int) := by omega
          go_wp2
          go_round
          case rel => exact ⟨k + 1, by omega, by go_num, fun j hj => by by_cases e : j = k; (subst e; exact h128); exact HJ.out j (by omega)⟩
          case measure => simp [intOf]; omega
        · have hb : ¬ (128 : Int) ≤ ((g k : Nat) : Int) := by omega
          have hq := tkF_at g n k (by omega) HJ.out (by omega)
          have hm := enc_mod g k (by omega) HJ.out hr (by omega)
          have HQ := Lib.hid (hq.symm.trans HT.out)
          have HE := Lib.hid hm
          have HD := Lib.hid (D_all g k)
          clear hq hm
          go_wp2
          go_loop [7, 8] (fun s i => ∃ j : Nat, j ≤ k + 1 ∧ i = .int .i64 ((j : Int) - 1) ∧ s = .int .u64 (D g j k : Nat)) (fun _ i => (intOf i + 1).toNat)
          case atStart => exact ⟨k + 1, Nat.le_refl _, by go_num, by rw [D_end]; rfl⟩
          case round =>
            obtain ⟨j, hj, hi, rfl⟩ := hrel
            cases j with
            | succ j =>
              rw [show ((j + 1 : Nat) : Int) - 1 = (j : Int) by omega] at hi
              subst hi
              have hcj := hcell j (by omega)
              have hrj := hr j
              have hst := Lib.hid (D_step g j k (by omega) hrj)
              go_wp2
              go_round
              case rel => exact ⟨j, Nat.le_of_succ_le hj, rfl, by rw [hst.out]⟩
              case measure => simp [intOf]
            | zero =>
              rw [show ((0 : Nat) : Int) - 1 = -1 by omega] at hi
              subst hi
              rw [HD.out]
              have hm64 := Lib.hid (show S g (k + 1) % 18446744073709551616 < 18446744073709551616 from Nat.mod_lt _ (by omega))
              generalize hmm : S g (k + 1) % 18446744073709551616 = m at *
              have HMM := Lib.hid hmm
              clear hmm
              have hRd : Rd w (.slice (some ⟨b, off, none⟩) (k + 1) c) (k + 1) g := ⟨hr, .inr ⟨by omega, b, off, c, rfl, by omega, hcap, hbw, fun i hi => hcell i (by omega)⟩⟩
              have hcx := (hRd.below (Below.refl w.heap.size w).drew).conv
              have hw1 : IntKind.i64.wrap ((k : Int) + 1) = (k : Int) + 1 := by rw [IntKind.wrap_i64]; omega
              have hw2 : ((k : Int) + 1).toNat = k + 1 := by omega
              have hw3 : (0 : Int) ≤ (k : Int) + 1 := by omega
              have hst := bstr_eq (eg_256 m) hr (enc m).length (k + 1)
              rw [fl_eg] at hst
              by_cases hbad : bad g k
              · have hne : decide (enc m = fl g (k + 1)) = false := by rw [decide_eq_false_iff_not, HE.out.1]; exact fun h => h hbad
                rw [hne] at hst
                have hq := HQ.out
                rw [if_pos hbad] at hq
                simp only [Prod.mk.injEq] at hq
                obtain ⟨rfl, rfl, rfl⟩ := hq
                clear hne
                go_wp2
                go_region_with ((go_at_call 14; refine (rput_any m _ hm64.out).mono ?_; rintro e w1 ⟨v1, rfl, hown1, hb1⟩; have hcv := (Rd.of_enc hown1).conv; have hcy := ((hRd.below (Below.refl w.heap.size w).drew).below hb1).conv))
                all_goals go_wp2
                all_goals go_ret3
                all_goals exact ⟨rfl, (Below.refl w.heap.size w).drew.trans hb1⟩
              · have hne : decide (enc m = fl g (k + 1)) = true := by rw [decide_eq_true_iff, HE.out.1]; exact hbad
                rw [hne] at hst
                have hq := HQ.out
                rw [if_neg hbad, ← HE.out.2 hbad] at hq
                simp only [Prod.mk.injEq] at hq
                obtain ⟨rfl, rfl, rfl⟩ := hq
                clear hne
                go_wp2
                go_region_with ((go_at_call 14; refine (rput_any m _ hm64.out).mono ?_; rintro e w1 ⟨v1, rfl, hown1, hb1⟩; have hcv := (Rd.of_enc hown1).conv; have hcy := ((hRd.below (Below.refl w.heap.size w).drew).below hb1).conv))
                all_goals go_wp2
                all_goals go_ret3
                all_goals exact ⟨by simp, (Below.refl w.heap.size w).drew.trans hb1⟩
      · obtain rfl : k = 10 := by omega
        have HQ := Lib.hid ((tkF_all g n (fun j hj => HJ.out j (by omega))).symm.trans HT.out)
        go_wp2
        all_goals go_ret3
        all_goals (have hq := HQ.out; simp only [Prod.mk.injEq] at hq; obtain ⟨rfl, rfl, rfl⟩ := hq)
        all_goals first | exact ⟨by rw [if_pos (by omega)]; rfl, Below.refl _ _⟩ | exact ⟨by rw [if_neg (by omega)]; rfl, Below.refl _ _⟩
  · obtain rfl : M = n := by omega
    clear hM'
    go_wp2
    go_loop [6] (fun i => ∃ k : Nat, k ≤ M ∧ i = .int .i64 k ∧ ∀ j, j < k → 128 ≤ g j) (fun i => M - (intOf i).toNat)
    case atStart => exact ⟨0, by omega, rfl, fun j hj => by omega⟩
    case round =>
      obtain ⟨k, hk, rfl, hj⟩ := hrel
      have HJ := Lib.hid hj
      clear hj
      by_cases hlt : k < M
      · have hck := hcell k (by omega)
        have hrk := hr k
        by_cases h128 : 128 ≤ g k
        · have hb : (128 : Int) ≤ ((g k : Nat) : Int) := by omega
          go_wp2
          go_round
          case rel => exact ⟨k + 1, by omega, by go_num, fun j hj => by by_cases e : j = k; (subst e; exact h128); exact HJ.out j (by omega)⟩
          case measure => simp [intOf]; omega
        · have hb : ¬ (128 : Int) ≤ ((g k : Nat) : Int) := by omega
          have hq := tkF_at g M k (by omega) HJ.out (by omega)
          have hm := enc_mod g k (by omega) HJ.out hr (by omega)
          have HQ := Lib.hid (hq.symm.trans HT.out)
          have HE := Lib.hid hm
          have HD := Lib.hid (D_all g k)
          clear hq hm
          go_wp2
          go_loop [7, 8] (fun s i => ∃ j : Nat, j ≤ k + 1 ∧ i = .int .i64 ((j : Int) - 1) ∧ s = .int .u64 (D g j k : Nat)) (fun _ i => (intOf i + 1).toNat)
          case atStart => exact ⟨k + 1, Nat.le_refl _, by go_num, by rw [D_end]; rfl⟩
          case round =>
            obtain ⟨j, hj, hi, rfl⟩ := hrel
            cases j with
            | succ j =>
              rw [show ((j + 1 : Nat) : Int) - 1 = (j : Int) by omega] at hi
              subst hi
              have hcj := hcell j (by omega)
              have hrj := hr j
              have hst := Lib.hid (D_step g j k (by omega) hrj)
              go_wp2
              go_round
              case rel => exact ⟨j, Nat.le_of_succ_le hj, rfl, by rw [hst.out]⟩
              case measure => simp [intOf]
            | zero =>
              rw [show ((0 : Nat) : Int) - 1 = -1 by omega] at hi
              subst hi
              rw [HD.out]
              have hm64 := Lib.hid (show S g (k + 1) % 18446744073709551616 < 18446744073709551616 from Nat.mod_lt _ (by omega))
              generalize hmm : S g (k + 1) % 18446744073709551616 = m at *
              have HMM := Lib.hid hmm
              clear hmm
              have hRd : Rd w (.slice (some ⟨b, off, none⟩) (k + 1) c) (k + 1) g := ⟨hr, .inr ⟨by omega, b, off, c, rfl, by omega, hcap, hbw, fun i hi => hcell i (by omega)⟩⟩
              have hcx := (hRd.below (Below.refl w.heap.size w).drew).conv
              have hw1 : IntKind.i64.wrap ((k : Int) + 1) = (k : Int) + 1 := by rw [IntKind.wrap_i64]; omega
              have hw2 : ((k : Int) + 1).toNat = k + 1 := by omega
              have hw3 : (0 : Int) ≤ (k : Int) + 1 := by omega
              have hst := bstr_eq (eg_256 m) hr (enc m).length (k + 1)
              rw [fl_eg] at hst
              by_cases hbad : bad g k
              · have hne : decide (enc m = fl g (k + 1)) = false := by rw [decide_eq_false_iff_not, HE.out.1]; exact fun h => h hbad
                rw [hne] at hst
                have hq := HQ.out
                rw [if_pos hbad] at hq
                simp only [Prod.mk.injEq] at hq
                obtain ⟨rfl, rfl, rfl⟩ := hq
                clear hne
                go_wp2
                go_region_with ((go_at_call 14; refine (rput_any m _ hm64.out).mono ?_; rintro e w1 ⟨v1, rfl, hown1, hb1⟩; have hcv := (Rd.of_enc hown1).conv; have hcy := ((hRd.below (Below.refl w.heap.size w).drew).below hb1).conv))
                all_goals go_wp2
                all_goals go_ret3
                all_goals exact ⟨rfl, (Below.refl w.heap.size w).drew.trans hb1⟩
              · have hne : decide (enc m = fl g (k + 1)) = true := by rw [decide_eq_true_iff, HE.out.1]; exact hbad
                rw [hne] at hst
                have hq := HQ.out
                rw [if_neg hbad, ← HE.out.2 hbad] at hq
                simp only [Prod.mk.injEq] at hq
                obtain ⟨rfl, rfl, rfl⟩ := hq
                clear hne
                go_wp2
                go_region_with ((go_at_call 14; refine (rput_any m _ hm64.out).mono ?_; rintro e w1 ⟨v1, rfl, hown1, hb1⟩; have hcv := (Rd.of_enc hown1).conv; have hcy := ((hRd.below (Below.refl w.heap.size w).drew).below hb1).conv))
                all_goals go_wp2
                all_goals go_ret3
                all_goals exact ⟨by simp, (Below.refl w.heap.size w).drew.trans hb1⟩
      · have hkn : k = M := by omega
        subst hkn
        have HQ := Lib.hid ((tkF_all g k (fun j hj => HJ.out j (by omega))).symm.trans HT.out)
        by_cases hk10 : k = 10
        · subst hk10
          go_wp2
          all_goals go_ret3
          all_goals (have hq := HQ.out; simp only [Prod.mk.injEq] at hq; obtain ⟨rfl, rfl, rfl⟩ := hq)
          all_goals exact ⟨by rw [if_pos (by omega)]; rfl, Below.refl _ _⟩
        · have hk10' : ((k : Int) == 10) = false := by simp; omega
          go_wp2
          all_goals go_ret3
          all_goals (have hq := HQ.out; simp only [Prod.mk.injEq] at hq; obtain ⟨rfl, rfl, rfl⟩ := hq)
          all_goals exact ⟨by rw [if_neg (by omega)]; rfl, Below.refl _ _⟩
end Go.Proofs.Ytnddifenlamhjaa
