import Derived.Test.YtenmjhkmehckhaaShown
namespace Go.Proofs.Ytenmjhkmehckhaa
open Go.RowKit
set_option linter.unusedVariables false
set_option linter.unusedSimpArgs false
theorem half_xor (x y : Nat) : (x ^^^ y) / 2 = x / 2 ^^^ y / 2 := by
  have := Nat.shiftRight_xor_distrib (a := x) (b := y) (i := 1)
  simpa [Nat.shiftRight_eq_div_pow] using this
theorem oneN_xor (x y : Nat) : oneN (x ^^^ y) = oneN x ^^^ oneN y := by
  unfold oneN
  rw [half_xor]
  have hm : (x ^^^ y) % 2 = (x % 2) ^^^ (y % 2) := Nat.xor_mod_two_pow (n := 1)
  have key : (if (x ^^^ y) % 2 = 1 then 3988292384 else 0) = (if x % 2 = 1 then 3988292384 else 0) ^^^ (if y % 2 = 1 then 3988292384 else 0) := by
    rw [hm]
    rcases Nat.mod_two_eq_zero_or_one x with hx | hx <;> rcases Nat.mod_two_eq_zero_or_one y with hy | hy
    all_goals rw [hx, hy]; simp
  rw [key]
  generalize x / 2 = a
  generalize y / 2 = b
  generalize (if x % 2 = 1 then 3988292384 else 0) = c
  generalize (if y % 2 = 1 then 3988292384 else 0) = d
  rw [Nat.xor_assoc, Nat.xor_assoc]
  congr 1
  rw [← Nat.xor_assoc, ← Nat.xor_assoc, Nat.xor_comm b c]
theorem oneN_dbl (z : Nat) : oneN (2 * z) = z := by unfold oneN; rw [if_neg (by omega)]; simp
theorem it_xor : ∀ (k x y : Nat), it k (x ^^^ y) = it k x ^^^ it k y
  | 0, _, _ => rfl
  | k + 1, x, y => by simp only [it, oneN_xor, it_xor k]
theorem it_pow : ∀ (k y : Nat), it k (2 ^ k * y) = y
  | 0, y => by simp [it]
  | k + 1, y => by
    rw [it, show 2 ^ (k + 1) * y = 2 * (2 ^ k * y) by rw [Nat.pow_succ, Nat.mul_comm (2 ^ k) 2, Nat.mul_assoc], oneN_dbl, it_pow k]
theorem it_add : ∀ (j k x : Nat), it (j + k) x = it k (it j x)
  | 0, k, x => by rw [Nat.zero_add]; rfl
  | j + 1, k, x => by rw [Nat.succ_add, it, it_add j k]; rfl
theorem it_zero : ∀ k, it k 0 = 0
  | 0 => rfl
  | k + 1 => by rw [it]; exact it_zero k
/-- The eight bits of a byte ahead of the others. -/
theorem it_byte (r s : Nat) : it 8 (r ^^^ s) = stepN r (s % 256) ^^^ s / 256 := by
  have e : s = s % 256 ^^^ 256 * (s / 256) := by
    have h1 : (2 : Nat) ^ 8 * (s / 256) + s % 256 = 2 ^ 8 * (s / 256) ||| s % 256 := Nat.two_pow_add_eq_or_of_lt (i := 8) (show s % 256 < 2 ^ 8 from Nat.mod_lt _ (by omega)) (s / 256)
    apply Nat.eq_of_testBit_eq
    intro i
    have h2 : s = 2 ^ 8 * (s / 256) ||| s % 256 := by rw [← h1]; omega
    have h3 : s.testBit i = ((2 ^ 8 * (s / 256)).testBit i || (s % 256).testBit i) := by
      conv => lhs; rw [h2]
      rw [Nat.testBit_or]
    rw [h3, Nat.testBit_xor]
    by_cases hi : i < 8
    · have : (2 ^ 8 * (s / 256)).testBit i = false := by rw [Nat.testBit_two_pow_mul]; simp; omega
      rw [show (256 : Nat) * (s / 256) = 2 ^ 8 * (s / 256) by rfl, this]; simp
    · have : (s % 256).testBit i = false := Nat.testBit_lt_two_pow (Nat.lt_of_lt_of_le (show s % 256 < 2 ^ 8 from Nat.mod_lt _ (by omega)) (Nat.pow_le_pow_right (by omega) (by omega)))
      rw [this]; simp
  have e2 : r ^^^ s = (r ^^^ s % 256) ^^^ 2 ^ 8 * (s / 256) := by
    conv => lhs; rw [e]
    rw [Nat.xor_assoc]
  rw [e2, it_xor, it_pow]
  rfl
/-- Four bytes at once. -/
theorem it_word (r s : Nat) (h : s < 4294967296) : it 32 (r ^^^ s) = stepN (stepN (stepN (stepN r (q4 s 0)) (q4 s 1)) (q4 s 2)) (q4 s 3) := by
  have h1 : it 32 (r ^^^ s) = it 24 (it 8 (r ^^^ s)) := it_add 8 24 _
  have h2 : ∀ x, it 24 x = it 16 (it 8 x) := fun x => it_add 8 16 x
  have h3 : ∀ x, it 16 x = it 8 (it 8 x) := fun x => it_add 8 8 x
  have e1 : s / 256 / 256 = s / 65536 := by omega
  have e2 : s / 65536 / 256 = s / 16777216 := by omega
  have e3 : s / 16777216 / 256 = 0 := by omega
  rw [h1, it_byte, h2, it_byte, h3, it_byte, it_byte, e1, e2, e3, Nat.xor_zero]
  have f0 : q4 s 0 = s % 256 := by unfold q4; omega
  have f1 : q4 s 1 = s / 256 % 256 := by unfold q4; omega
  have f2 : q4 s 2 = s / 65536 % 256 := by unfold q4; omega
  have f3 : q4 s 3 = s / 16777216 % 256 := by unfold q4; omega
  rw [f0, f1, f2, f3]
/-- What was sealed has one and the same register. -/
theorem reg_sealed {g : Nat → Nat} (hg : ∀ i, g i < 256) (n : Nat) : regN (sealG g n) (n + 4) = it 32 4294967295 := by
  have e : regN (sealG g n) n = regN g n := regN_same n (fun i hi => sealG_lo g n i hi)
  have hz := sealG_hi g n 0 (by omega)
  rw [Nat.add_zero] at hz
  rw [show n + 4 = n + 3 + 1 by omega, regN, show n + 3 = n + 2 + 1 by omega, regN, show n + 2 = n + 1 + 1 by omega, regN, regN, e, hz, sealG_hi g n 1 (by omega), show n + 1 + 1 = n + 2 by omega, show n + 2 + 1 = n + 3 by omega, sealG_hi g n 2 (by omega), sealG_hi g n 3 (by omega)]
  rw [← it_word _ _ (sumN_lt hg n)]
  unfold sumN
  rw [← Nat.xor_assoc, Nat.xor_self, Nat.zero_xor]
theorem res32 : it 32 4294967295 ^^^ 4294967295 = 558161692 := by decide +kernel
theorem sum_sealed {g : Nat → Nat} (hg : ∀ i, g i < 256) (n : Nat) : sumN (sealG g n) (n + 4) = 558161692 := by
  unfold sumN
  rw [reg_sealed hg, res32]
end Go.Proofs.Ytenmjhkmehckhaa
