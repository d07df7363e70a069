import Derived.Test.YtnddifenlamhjaaPutAt
namespace Go.Proofs.Ytnddifenlamhjaa
open Go.RowKit
set_option linter.unusedVariables false
set_option linter.unusedSimpArgs false

theorem len_gt : ∀ (k n : Nat), (k + 1 < (enc n).length ↔ 128 ^ (k + 1) ≤ n)
  | 0, n => by
    by_cases h : n < 128
    · rw [len_lo h]; omega
    · rw [len_hi h]
      have := enc_pos (n / 128)
      simp; omega
  | k + 1, n => by
    have hp : 0 < 128 ^ (k + 1) := Nat.pow_pos (by omega)
    by_cases h : n < 128
    · rw [len_lo h, Nat.pow_succ]
      constructor
      · intro h2; omega
      · intro h2; omega
    · rw [len_hi h, Nat.add_lt_add_iff_right, len_gt k (n / 128), Nat.le_div_iff_mul_le (by omega), ← Nat.pow_succ]
theorem shr_pos (n k : Nat) : (0 < (n : Int) / 2 ^ (7 * (k + 1))) ↔ k + 1 < (enc n).length := by
  rw [len_gt]
  have e : ((n : Int) / 2 ^ (7 * (k + 1))) = ((n / 2 ^ (7 * (k + 1)) : Nat) : Int) := by push_cast; rfl
  rw [e, pow7]
  have hp : 0 < 128 ^ (k + 1) := Nat.pow_pos (by omega)
  constructor
  · intro h
    have : 0 < n / 128 ^ (k + 1) := by omega
    exact (Nat.div_pos_iff.1 this).2
  · intro h
    have := Nat.div_pos h hp
    omega

set_option maxRecDepth 100000 in
set_option maxHeartbeats 2000000 in
theorem short_any (n : Nat) (w : World) (hn : n < 18446744073709551616) :
    Calls Try.prog 5 #[.int .u64 n] w fun e w' => e = .returned (.bool true) ∧ Below w.heap.size w w' := by
  have HN := Lib.hid hn
  clear hn
  go_enter Try.func5, Try.ntmps5
  go_wp2_with (fail)
  go_at_call 9; refine (shown_any _).mono ?_; rintro e w1 ⟨rfl, hb1⟩
  go_wp2_with (fail)
  go_at_call 13; refine (put_at n _ HN.out).mono ?_; rintro e w2 ⟨b2, m, c2, rfl, hm, hc21, hc22, hlt2, _, hcell2, _, _, hb2⟩
  have hl2 : m + 1 ≤ 10 := by have := enc_len10 HN.out; omega
  have HM := Lib.hid hm
  clear hm
  go_wp2_with (fail)
  go_loop [5, 6] (fun s i => ∃ k : Nat, 1 ≤ k ∧ k ≤ 10 ∧ i = .int .i64 k ∧ s = .int .i64 (min (m + 1) k : Nat)) (fun _ i => 10 - (intOf i).toNat)
  case atStart => exact ⟨1, by omega, by omega, rfl, by congr 1; omega⟩
  case round =>
    obtain ⟨k, hk1, hk, rfl, rfl⟩ := hrel
    obtain ⟨k, rfl⟩ : ∃ j, k = j + 1 := ⟨k - 1, by omega⟩
    by_cases hlt : k + 1 < 10
    · have hs := shr_pos n k
      rw [HM.out] at hs
      by_cases hp : k + 1 < m + 1
      · have hq : 0 < (n : Int) / 2 ^ (7 * (k + 1)) := hs.2 hp
        have HS := Lib.hid hs
        clear hs
        go_wp2_with (fail)
        go_round
        case rel => exact ⟨k + 1 + 1, by omega, by omega, by go_num, by congr 1; omega⟩
        case measure => simp [intOf]; omega
      · have hq : ¬ 0 < (n : Int) / 2 ^ (7 * (k + 1)) := fun h => hp (hs.1 h)
        have HS := Lib.hid hs
        clear hs
        go_wp2_with (fail)
        go_round
        case rel => exact ⟨k + 1 + 1, by omega, by omega, by go_num, by congr 1; omega⟩
        case measure => simp [intOf]; omega
    · obtain rfl : k = 9 := by omega
      go_wp2_with (fail)
      go_loop [7] (fun i => ∃ j : Nat, j ≤ m + 1 ∧ i = .int .i64 j) (fun i => m + 1 - (intOf i).toNat)
      case atStart => exact ⟨0, by omega, rfl⟩
      case round =>
        obtain ⟨j, hj, rfl⟩ := hrel
        by_cases hlt : j < m + 1
        · have hR : Rd w2 (.slice (some ⟨b2, 0, none⟩) j c2) j (eg n) := ⟨eg_256 _, by
            rcases Nat.eq_zero_or_pos j with h0 | h0
            · exact .inl ⟨h0, some ⟨b2, 0, none⟩, c2, by rw [h0], by omega⟩
            · exact .inr ⟨h0, b2, 0, c2, rfl, by omega, by omega, hlt2, fun i hi => by rw [Nat.zero_add]; exact hcell2 i (by omega)⟩⟩
          have hspec := eg_spec n
          rw [HM.out] at hspec
          have hT : tkF (eg n) j = (0, 0, 2) := by
            rw [tkF_all (eg n) j (fun i hi => (hspec.1 i (by omega)).1), if_neg (by omega)]
          have HT := Lib.hid hT
          have HR := Lib.hid hR
          have hck := hcell2 j hlt
          clear hT hR
          by_cases hjm : j < m
          · have h128 : (128 : Int) ≤ ((eg n j : Nat) : Int) := by have := (hspec.1 j (by omega)).1; omega
            have HP := Lib.hid hspec
            clear hspec
            go_wp2_with (fail)
            go_at_call 10; refine (take_as HR.out HT.out).mono ?_; rintro e w3 ⟨rfl, rfl⟩
            go_wp2_with (fail)
            go_round
            case rel => exact ⟨j + 1, by omega, by go_num⟩
            case measure => simp [intOf]; omega
          · have h128 : ¬ (128 : Int) ≤ ((eg n j : Nat) : Int) := by
              have := hspec.2.1
              rw [show m + 1 - 1 = j by omega] at this
              omega
            have HP := Lib.hid hspec
            clear hspec
            go_wp2_with (fail)
            go_at_call 10; refine (take_as HR.out HT.out).mono ?_; rintro e w3 ⟨rfl, rfl⟩
            go_wp2_with (fail)
            go_round
            case rel => exact ⟨j + 1, by omega, by go_num⟩
            case measure => simp [intOf]; omega
        · obtain rfl : j = m + 1 := by omega
          go_wp2_with (fail)
          go_ret
          exact ⟨rfl, hb1.trans (hb2.mono hb1.size)⟩
end Go.Proofs.Ytnddifenlamhjaa
