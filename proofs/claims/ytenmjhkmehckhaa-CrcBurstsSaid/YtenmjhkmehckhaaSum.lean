import Derived.Test.YtenmjhkmehckhaaRd
namespace Go.Proofs.Ytenmjhkmehckhaa
open Go.RowKit
set_option linter.unusedVariables false
set_option linter.unusedSimpArgs false

/-- The register behind the first k bytes; the sum. -/
def regN (g : Nat → Nat) : Nat → Nat
  | 0 => 4294967295
  | k + 1 => stepN (regN g k) (g k)
theorem regN_lt {g : Nat → Nat} (h : ∀ i, g i < 256) : ∀ k, regN g k < 4294967296
  | 0 => by simp [regN]
  | k + 1 => stepN_lt (regN_lt h k) (h k)
theorem regN_same {g g' : Nat → Nat} : ∀ (k : Nat), (∀ i, i < k → g i = g' i) → regN g k = regN g' k
  | 0, _ => rfl
  | k + 1, h => by unfold regN; rw [regN_same k (fun i hi => h i (by omega)), h k (by omega)]
def sumN (g : Nat → Nat) (n : Nat) : Nat := regN g n ^^^ 4294967295
theorem sumN_lt {g : Nat → Nat} (h : ∀ i, g i < 256) (n : Nat) : sumN g n < 4294967296 := Nat.xor_lt_two_pow (n := 32) (regN_lt h n) (by omega)
theorem sumI {g : Nat → Nat} (h : ∀ i, g i < 256) (n : Nat) : bits .xor .u32 ((regN g n : Nat) : Int) 4294967295 = ((sumN g n : Nat) : Int) := u32_xor_nat _ 4294967295 (regN_lt h n) (by omega)

set_option maxHeartbeats 400000 in
theorem sum_nil (a : Option Addr) (c : Nat) (g : Nat → Nat) (w : World) : Calls Try.prog 13 #[.slice a 0 c] w fun e w' => e = .returned (.int .u32 (sumN g 0 : Nat)) ∧ w = w' := by
  go_enter Try.func13, Try.ntmps13
  go_wp2
  refine wp_loop_rounds 1 ?_
  rw [rounds_succ]; go_wp2
  go_ret
  exact ⟨congrArg (fun z => Ending.returned (.int .u32 z)) (show bits .xor .u32 4294967295 4294967295 = ((sumN g 0 : Nat) : Int) from u32_xor_nat 4294967295 4294967295 (by omega) (by omega)), rfl⟩
set_option maxHeartbeats 400000 in
theorem sum_len (b off n c : Nat) (g : Nat → Nat) (w : World) (hn : 0 < n) (hc : n ≤ c) (hcap : c ≤ 9223372036854775807)
    (hcell : ∀ i, i < n → w.cell? ⟨b, off + i, none⟩ = some (.int .u8 (g i : Nat))) (hr : ∀ i, g i < 256) :
    Calls Try.prog 13 #[.slice (some ⟨b, off, none⟩) n c] w fun e w' => e = .returned (.int .u32 (sumN g n : Nat)) ∧ w = w' := by
  have HI := Lib.hid (sumI hr n)
  go_enter Try.func13, Try.ntmps13
  go_wp2
  go_loop [3, 8] (fun s i => ∃ k : Nat, k ≤ n ∧ s = .int .u32 (regN g k : Nat) ∧ i = .int .i64 k) (fun _ i => n - (intOf i).toNat)
  case atStart => exact ⟨0, by omega, rfl, rfl⟩
  case round =>
    obtain ⟨k, hk, rfl, rfl⟩ := hrel
    by_cases hlt : k < n
    · have hck := hcell k hlt
      have HL := Lib.hid (regN_lt hr k)
      have HK := Lib.hid (hr k)
      go_wp2_with (fail)
      go_at_call 15; refine (step_any _ _ _ HL.out HK.out).mono ?_; rintro e w1 ⟨rfl, rfl⟩
      go_wp2_with (fail)
      go_round
      case rel => exact ⟨k + 1, by omega, rfl, by go_num⟩
      case measure => simp [intOf]; omega
    · obtain rfl : k = n := by omega
      go_wp2
      go_ret
      exact ⟨congrArg (fun z => Ending.returned (.int .u32 z)) HI.out, rfl⟩
theorem sum_any {v : Value} {n : Nat} {g : Nat → Nat} {w : World} (h : Rd w v n g) : Calls Try.prog 13 #[v] w fun e w' => e = .returned (.int .u32 (sumN g n : Nat)) ∧ w = w' := by
  obtain ⟨h1, ⟨rfl, a, c, rfl, h4⟩ | ⟨h2, b, off, c, rfl, h4, h5, h6, h7⟩⟩ := h
  · exact sum_nil a c g w
  · exact sum_len b off n c g w h2 h4 h5 h7 h1
theorem xor_all {x : Nat} (h : x < 4294967296) : x ^^^ 4294967295 = 4294967295 - x := by
  apply Nat.eq_of_testBit_eq
  intro i
  have h1 : (4294967295 : Nat) - x = 2 ^ 32 - (x + 1) := by omega
  have h2 : (4294967295 : Nat) = 2 ^ 32 - (0 + 1) := by omega
  rw [h1, Nat.testBit_two_pow_sub_succ (by omega), Nat.testBit_xor, h2, Nat.testBit_two_pow_sub_succ (by omega)]
  by_cases hi : i < 32
  · simp [hi]
  · have : x.testBit i = false := Nat.testBit_lt_two_pow (Nat.lt_of_lt_of_le (show x < 2 ^ 32 by omega) (Nat.pow_le_pow_right (by omega) (by omega)))
    simp [hi, this]

set_option maxHeartbeats 1000000 in
theorem rstep_any (r c : Nat) (w : World) (hr : r < 4294967296) (hc : c < 256) :
    Calls Try.prog 16 #[.int .u32 r, .int .u8 c] w fun e w' => e = .returned (.int .u32 (stepN r c : Nat)) ∧ w = w' := by
  have hx := u32_xor_nat r c hr (by omega)
  have hl := xor_lt32 hr hc
  go_enter Try.func16, Try.ntmps16
  go_wp2
  go_loop [0, 5] (fun s i => ∃ k acc : Nat, k ≤ 8 ∧ s = .int .u32 acc ∧ i = .int .i64 k ∧ acc < 4294967296 ∧ it (8 - k) acc = stepN r c) (fun _ i => 8 - (intOf i).toNat)
  case atStart => exact ⟨0, r ^^^ c, by omega, by first | rfl | rw [hx], rfl, hl, rfl⟩
  case round =>
    obtain ⟨k, acc, hk, rfl, rfl, hacc, hT⟩ := hrel
    have HT := Lib.hid hT
    clear hT
    by_cases hlt : k < 8
    · have hs : it (8 - k) acc = it (8 - (k + 1)) (oneN acc) := by
        rw [show 8 - k = (8 - (k + 1)) + 1 by omega]; rfl
      have hol := oneN_lt hacc
      have HO := Lib.hid hol
      have HS := Lib.hid hs
      clear hs hol
      rcases Nat.mod_two_eq_zero_or_one acc with h0 | h0
      · have h2 : ((acc : Int) % 2 == 1) = false := by rw [beq_eq_false_iff_ne]; omega
        have hv : ((oneN acc : Nat) : Int) = (acc : Int) / 2 := by unfold oneN; rw [h0]; simp
        have HV := Lib.hid hv
        clear hv
        go_wp2
        go_round
        case rel => exact ⟨k + 1, oneN acc, by omega, by rw [HV.out], by go_num, HO.out, by rw [← HT.out, HS.out]⟩
        case measure => simp [intOf]; omega
      · have h2 : ((acc : Int) % 2 == 1) = true := by rw [beq_iff_eq]; omega
        have hv : ((oneN acc : Nat) : Int) = bits .xor .u32 ((acc : Int) / 2) 3988292384 := by
          unfold oneN; rw [h0]
          have := u32_xor_nat (acc / 2) 3988292384 (by omega) (by omega)
          have e : ((acc : Int) / 2) = ((acc / 2 : Nat) : Int) := by omega
          rw [e]; simpa using this.symm
        have HV := Lib.hid hv
        clear hv
        go_wp2
        go_round
        case rel => exact ⟨k + 1, oneN acc, by omega, by rw [HV.out], by go_num, HO.out, by rw [← HT.out, HS.out]⟩
        case measure => simp [intOf]; omega
    · obtain rfl : k = 8 := by omega
      go_wp2
      go_ret
      exact ⟨congrArg (fun (z : Nat) => Ending.returned (.int .u32 (z : Int))) HT.out, rfl⟩
theorem sumI2 {g : Nat → Nat} (h : ∀ i, g i < 256) (n : Nat) : (4294967295 - ((regN g n : Nat) : Int)) = ((sumN g n : Nat) : Int) := by
  have := regN_lt h n
  unfold sumN
  rw [xor_all this]; omega
theorem sumI3 {g : Nat → Nat} (h : ∀ i, g i < 256) (n : Nat) : (4294967295 - ((regN g n : Nat) : Int)) % 4294967296 = ((sumN g n : Nat) : Int) := by
  have := regN_lt h n
  rw [sumI2 h]
  have := sumN_lt h n
  omega
set_option maxHeartbeats 400000 in
theorem rsum_nil (a : Option Addr) (c : Nat) (g : Nat → Nat) (w : World) : Calls Try.prog 14 #[.slice a 0 c] w fun e w' => e = .returned (.int .u32 (sumN g 0 : Nat)) ∧ w = w' := by
  go_enter Try.func14, Try.ntmps14
  go_wp2
  refine wp_loop_rounds 1 ?_
  rw [rounds_succ]; go_wp2
  go_ret
  exact ⟨congrArg (fun z => Ending.returned (.int .u32 z)) (show (0 : Int) = ((sumN g 0 : Nat) : Int) by unfold sumN regN; simp), rfl⟩
set_option maxHeartbeats 400000 in
theorem rsum_len (b off n c : Nat) (g : Nat → Nat) (w : World) (hn : 0 < n) (hc : n ≤ c) (hcap : c ≤ 9223372036854775807)
    (hcell : ∀ i, i < n → w.cell? ⟨b, off + i, none⟩ = some (.int .u8 (g i : Nat))) (hr : ∀ i, g i < 256) :
    Calls Try.prog 14 #[.slice (some ⟨b, off, none⟩) n c] w fun e w' => e = .returned (.int .u32 (sumN g n : Nat)) ∧ w = w' := by
  have HI := Lib.hid (sumI2 hr n)
  have HI3 := Lib.hid (sumI3 hr n)
  go_enter Try.func14, Try.ntmps14
  go_wp2
  go_loop [3, 4] (fun s i => ∃ k : Nat, k ≤ n ∧ s = .int .u32 (regN g k : Nat) ∧ i = .int .i64 k) (fun _ i => n - (intOf i).toNat)
  case atStart => exact ⟨0, by omega, rfl, rfl⟩
  case round =>
    obtain ⟨k, hk, rfl, rfl⟩ := hrel
    by_cases hlt : k < n
    · have hck := hcell k hlt
      have HL := Lib.hid (regN_lt hr k)
      have HK := Lib.hid (hr k)
      go_wp2_with (fail)
      go_at_call 16; refine (rstep_any _ _ _ HL.out HK.out).mono ?_; rintro e w1 ⟨rfl, rfl⟩
      go_wp2_with (fail)
      go_round
      case rel => exact ⟨k + 1, by omega, rfl, by go_num⟩
      case measure => simp [intOf]; omega
    · obtain rfl : k = n := by omega
      go_wp2
      go_ret
      exact ⟨congrArg (fun z => Ending.returned (.int .u32 z)) (by first | exact HI.out | exact HI3.out), rfl⟩
theorem rsum_any {v : Value} {n : Nat} {g : Nat → Nat} {w : World} (h : Rd w v n g) : Calls Try.prog 14 #[v] w fun e w' => e = .returned (.int .u32 (sumN g n : Nat)) ∧ w = w' := by
  obtain ⟨h1, ⟨rfl, a, c, rfl, h4⟩ | ⟨h2, b, off, c, rfl, h4, h5, h6, h7⟩⟩ := h
  · exact rsum_nil a c g w
  · exact rsum_len b off n c g w h2 h4 h5 h7 h1
end Go.Proofs.Ytenmjhkmehckhaa
