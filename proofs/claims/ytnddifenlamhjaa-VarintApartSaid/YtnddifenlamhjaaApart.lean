import Derived.Test.YtnddifenlamhjaaWb
namespace Go.Proofs.Ytnddifenlamhjaa
open Go.RowKit
set_option linter.unusedVariables false
set_option linter.unusedSimpArgs false

set_option maxRecDepth 100000 in
set_option maxHeartbeats 2000000 in
theorem apart_any (a b : Nat) (w : World) (ha : a < 18446744073709551616) (hb : b < 18446744073709551616) :
    Calls Try.prog 6 #[.int .u64 a, .int .u64 b] w fun e w' => e = .returned (.bool true) ∧ Below w.heap.size w w' := by
  have HA := Lib.hid ha
  have HB := Lib.hid hb
  clear ha hb
  go_enter Try.func6, Try.ntmps6
  go_wp2_with (fail)
  go_at_call 9; refine (shown_any _).mono ?_; rintro e w1 ⟨rfl, hb1⟩
  go_wp2_with (fail)
  go_at_call 13; refine (put_at a _ HA.out).mono ?_; rintro e w2 ⟨b2, m2, c2, rfl, hm2, hc21, hc22, hlt2, _, hcell2, _, _, hb2⟩
  go_wp2_with (fail)
  go_at_call 13; refine (put_at b _ HB.out).mono ?_; rintro e w3 ⟨b3, m3, c3, rfl, hm3, hc31, hc32, hlt3, _, hcell3, _, _, hb3⟩
  have hz3 := hb3.size
  have hx2 : ∀ i, i < m2 + 1 → w3.cell? ⟨b2, i, none⟩ = some (.int .u8 (eg a i : Nat)) := fun i hi => (hb3.cell (p := ⟨b2, i, none⟩) hlt2).trans (hcell2 i hi)
  have hx3 := hcell3
  clear hcell2 hcell3
  have hl2 : m2 + 1 ≤ 10 := by have := enc_len10 HA.out; omega
  have hl3 : m3 + 1 ≤ 10 := by have := enc_len10 HB.out; omega
  by_cases hle : m2 ≤ m3
  · have hmn : ¬ ((m3 : Int) + 1 < (m2 : Int) + 1) := by omega
    have hR2 : Rd w3 (.slice (some ⟨b2, 0, none⟩) (m2 + 1) c2) (m2 + 1) (eg a) := ⟨eg_256 _, .inr ⟨by omega, b2, 0, c2, rfl, by omega, by omega, by omega, fun i hi => by rw [Nat.zero_add]; exact hx2 i (by omega)⟩⟩
    have hR3 : Rd w3 (.slice (some ⟨b3, 0, none⟩) (m2 + 1) c3) (m2 + 1) (eg b) := ⟨eg_256 _, .inr ⟨by omega, b3, 0, c3, rfl, by omega, by omega, by omega, fun i hi => by rw [Nat.zero_add]; exact hx3 i (by omega)⟩⟩
    have hX : ((bstr (eg a) (m2 + 1)).toList == (bstr (eg b) (m2 + 1)).toList) = decide (a = b) := by
      rw [bstr_eq (eg_256 a) (eg_256 b), Bool.eq_iff_iff, decide_eq_true_iff, decide_eq_true_iff]
      exact ⟨fun h => prefix_free (N := m2 + 1) (by omega) h, fun h => by rw [h]⟩
    generalize hT2 : bstr (eg a) (m2 + 1) = T2 at hX
    generalize hT3 : bstr (eg b) (m2 + 1) = T3 at hX
    have hcv2 : ∀ u : WB w3.heap.size w3, (convert 23 9 (.slice (some ⟨b2, 0, none⟩) (m2 + 1) c2)).run Try.prog u.w = .ok (.string T2) u.w := fun u => by rw [← hT2]; exact (hR2.below u.2).conv
    have hcv3 : ∀ u : WB w3.heap.size w3, (convert 23 9 (.slice (some ⟨b3, 0, none⟩) (m2 + 1) c3)).run Try.prog u.w = .ok (.string T3) u.w := fun u => by rw [← hT3]; exact (hR3.below u.2).conv
    clear hT2 hT3 hR2 hR3 hx2 hx3 hm2 hm3
    have hY : ((a : Int) == (b : Int)) = decide (a = b) := by rw [Bool.eq_iff_iff]; simp; omega
    cases hd : decide (a = b)
    all_goals
      rw [hd] at hX hY
      clear hd
      go_wp2_with (fail)
      refine wp_region_wb2 (by kernel_rfl) (by kernel_rfl) ?_
      repeat (go_big_quiet_step (fail))
      refine wpQuiet_nil ?_
      intro w4 hb4
      go_wp2_with (fail)
      go_ret
      exact ⟨rfl, ((hb1.trans (hb2.mono hb1.size)).trans (hb3.mono (Nat.le_trans hb1.size hb2.size))).trans (hb4.mono (Nat.le_trans hb1.size (Nat.le_trans hb2.size hb3.size)))⟩
  · have hmn : (m3 : Int) + 1 < (m2 : Int) + 1 := by omega
    have hR2 : Rd w3 (.slice (some ⟨b2, 0, none⟩) (m3 + 1) c2) (m3 + 1) (eg a) := ⟨eg_256 _, .inr ⟨by omega, b2, 0, c2, rfl, by omega, by omega, by omega, fun i hi => by rw [Nat.zero_add]; exact hx2 i (by omega)⟩⟩
    have hR3 : Rd w3 (.slice (some ⟨b3, 0, none⟩) (m3 + 1) c3) (m3 + 1) (eg b) := ⟨eg_256 _, .inr ⟨by omega, b3, 0, c3, rfl, by omega, by omega, by omega, fun i hi => by rw [Nat.zero_add]; exact hx3 i (by omega)⟩⟩
    have hX : ((bstr (eg a) (m3 + 1)).toList == (bstr (eg b) (m3 + 1)).toList) = decide (a = b) := by
      rw [bstr_eq (eg_256 a) (eg_256 b), Bool.eq_iff_iff, decide_eq_true_iff, decide_eq_true_iff]
      exact ⟨fun h => prefix_free (N := m3 + 1) (by omega) h, fun h => by rw [h]⟩
    generalize hT2 : bstr (eg a) (m3 + 1) = T2 at hX
    generalize hT3 : bstr (eg b) (m3 + 1) = T3 at hX
    have hcv2 : ∀ u : WB w3.heap.size w3, (convert 23 9 (.slice (some ⟨b2, 0, none⟩) (m3 + 1) c2)).run Try.prog u.w = .ok (.string T2) u.w := fun u => by rw [← hT2]; exact (hR2.below u.2).conv
    have hcv3 : ∀ u : WB w3.heap.size w3, (convert 23 9 (.slice (some ⟨b3, 0, none⟩) (m3 + 1) c3)).run Try.prog u.w = .ok (.string T3) u.w := fun u => by rw [← hT3]; exact (hR3.below u.2).conv
    clear hT2 hT3 hR2 hR3 hx2 hx3 hm2 hm3
    have hY : ((a : Int) == (b : Int)) = decide (a = b) := by rw [Bool.eq_iff_iff]; simp; omega
    cases hd : decide (a = b)
    all_goals
      rw [hd] at hX hY
      clear hd
      go_wp2_with (fail)
      refine wp_region_wb2 (by kernel_rfl) (by kernel_rfl) ?_
      repeat (go_big_quiet_step (fail))
      refine wpQuiet_nil ?_
      intro w4 hb4
      go_wp2_with (fail)
      go_ret
      exact ⟨rfl, ((hb1.trans (hb2.mono hb1.size)).trans (hb3.mono (Nat.le_trans hb1.size hb2.size))).trans (hb4.mono (Nat.le_trans hb1.size (Nat.le_trans hb2.size hb3.size)))⟩
end Go.Proofs.Ytnddifenlamhjaa
