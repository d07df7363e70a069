import Derived.Test.YtenmjhkmehckhaaLinear
namespace Go.Proofs.Ytenmjhkmehckhaa
open Go.RowKit
set_option linter.unusedVariables false
set_option linter.unusedSimpArgs false
/-- The register of a difference: it begins with nothing. -/
def reg0 (d : Nat → Nat) : Nat → Nat
  | 0 => 0
  | k + 1 => stepN (reg0 d k) (d k)
theorem regN_diff (s d : Nat → Nat) : ∀ k, regN (fun j => s j ^^^ d j) k = regN s k ^^^ reg0 d k
  | 0 => by simp [regN, reg0]
  | k + 1 => by simp only [regN, reg0]; rw [regN_diff s d k, stepN_xor]
def byteOf (X j : Nat) : Nat := X / 256 ^ j % 256
theorem byteOf_256 (X j : Nat) : byteOf X j < 256 := Nat.mod_lt _ (by omega)
theorem reg0_it (X : Nat) : ∀ k, it (8 * k) X = reg0 (byteOf X) k ^^^ X / 256 ^ k
  | 0 => by simp [it, reg0]
  | k + 1 => by
    rw [show 8 * (k + 1) = 8 * k + 8 by omega, it_add, reg0_it X k, it_byte, reg0, Nat.div_div_eq_div_mul, ← Nat.pow_succ]
    rfl
theorem reg0_val (X n : Nat) (h : X < 256 ^ n) : reg0 (byteOf X) n = it (8 * n) X := by
  rw [reg0_it, Nat.div_eq_of_lt h, Nat.xor_zero]
/-- A burst's register is not nothing. -/
theorem burst_ne (n k M : Nat) (hk : k ≤ 8 * n) (hM : M < 4294967296) (h0 : M ≠ 0) (hX : 2 ^ k * M < 256 ^ n) : reg0 (byteOf (2 ^ k * M)) n ≠ 0 := by
  rw [reg0_val _ _ hX]
  obtain ⟨r, hr⟩ : ∃ r, 8 * n = k + r := ⟨8 * n - k, by omega⟩
  rw [hr, it_add, it_pow]
  intro h
  rw [← it_zero r] at h
  exact h0 (it_inj r hM (by omega) h)
/-- What opens has the one register. -/
theorem reg_ok {g : Nat → Nat} (hg : ∀ i, g i < 256) (n : Nat) (h : okN g n = true) : regN g (n + 4) = it 32 4294967295 := by
  unfold okN eq4 at h
  rw [decide_eq_true_iff] at h
  obtain ⟨h0, h1, h2, h3⟩ := h
  have e0 := Int.ofNat.inj h0
  have e1 := Int.ofNat.inj h1
  have e2 := Int.ofNat.inj h2
  have e3 := Int.ofNat.inj h3
  rw [show n + 4 = n + 3 + 1 by omega, regN, show n + 3 = n + 2 + 1 by omega, regN, show n + 2 = n + 1 + 1 by omega, regN, regN, show n + 1 + 1 = n + 2 by omega, show n + 2 + 1 = n + 3 by omega, ← e0, ← e1, ← e2, ← e3]
  rw [← it_word _ _ (sumN_lt hg n)]
  unfold sumN
  rw [← Nat.xor_assoc, Nat.xor_self, Nat.zero_xor]
/-- A burst is found. -/
theorem burst_found {g : Nat → Nat} (hg : ∀ i, g i < 256) (n k M : Nat) (hk : k ≤ 8 * (n + 4)) (hM : M < 4294967296) (h0 : M ≠ 0) (hX : 2 ^ k * M < 256 ^ (n + 4)) :
    okN (fun j => sealG g n j ^^^ byteOf (2 ^ k * M) j) n = false := by
  cases hok : okN (fun j => sealG g n j ^^^ byteOf (2 ^ k * M) j) n with
  | false => rfl
  | true =>
    exfalso
    have h1 := reg_ok (g := fun j => sealG g n j ^^^ byteOf (2 ^ k * M) j) (fun i => Nat.xor_lt_two_pow (n := 8) (sealG_256 hg n i) (byteOf_256 _ _)) n hok
    rw [regN_diff, reg_sealed hg] at h1
    have h2 : reg0 (byteOf (2 ^ k * M)) (n + 4) = 0 := by
      have := congrArg (fun z => it 32 4294967295 ^^^ z) h1
      simpa [← Nat.xor_assoc] using this
    exact burst_ne (n + 4) k M hk hM h0 hX h2
/-- The turned bits, one more. -/
theorem byteOf_bit (X j t : Nat) : (byteOf X j).testBit t = (decide (t < 8) && X.testBit (8 * j + t)) := by
  unfold byteOf
  rw [show (256 : Nat) = 2 ^ 8 by rfl, Nat.testBit_mod_two_pow, ← Nat.pow_mul, Nat.testBit_div_two_pow, Nat.add_comm t]
theorem byteOf_xor (X p j : Nat) : byteOf (X ^^^ 2 ^ p) j = byteOf X j ^^^ (if j = p / 8 then 2 ^ (p % 8) else 0) := by
  apply Nat.eq_of_testBit_eq
  intro t
  rw [byteOf_bit, Nat.testBit_xor, Nat.testBit_xor, byteOf_bit, Nat.testBit_two_pow]
  by_cases ht : t < 8
  · by_cases hj : j = p / 8
    · rw [if_pos hj, Nat.testBit_two_pow]
      have e : decide (p = 8 * j + t) = decide (p % 8 = t) := by
        rw [decide_eq_decide]; omega
      simp [ht, e]
    · rw [if_neg hj]
      have e : decide (p = 8 * j + t) = false := by
        rw [decide_eq_false_iff_not]; omega
      simp [ht, e]
  · have e : (if j = p / 8 then 2 ^ (p % 8) else 0).testBit t = false := by
      split
      · rw [Nat.testBit_two_pow, decide_eq_false_iff_not]; omega
      · simp
    simp [ht, e]
theorem mask_succ (m i : Nat) : m % 2 ^ (i + 1) = m % 2 ^ i ^^^ (if m.testBit i then 2 ^ i else 0) := by
  apply Nat.eq_of_testBit_eq
  intro t
  rw [Nat.testBit_mod_two_pow, Nat.testBit_xor, Nat.testBit_mod_two_pow]
  have e : (if m.testBit i = true then 2 ^ i else 0).testBit t = (m.testBit i && decide (i = t)) := by
    cases m.testBit i
    · simp
    · simp [Nat.testBit_two_pow]
  rw [e]
  rcases Nat.lt_trichotomy t i with h | h | h
  · have h1 : decide (i = t) = false := by rw [decide_eq_false_iff_not]; omega
    simp [h1, h, Nat.lt_succ_of_lt h]
  · subst h; simp
  · have h1 : decide (i = t) = false := by rw [decide_eq_false_iff_not]; omega
    have h2 : ¬ t < i + 1 := by omega
    have h3 : ¬ t < i := by omega
    simp [h1, h2, h3]
theorem mul_xor_pow (k a i : Nat) : 2 ^ k * (a ^^^ 2 ^ i) = 2 ^ k * a ^^^ 2 ^ (k + i) := by
  apply Nat.eq_of_testBit_eq
  intro t
  rw [Nat.testBit_two_pow_mul, Nat.testBit_xor, Nat.testBit_xor, Nat.testBit_two_pow_mul, Nat.testBit_two_pow, Nat.testBit_two_pow]
  by_cases h : k ≤ t
  · have e : decide (i = t - k) = decide (k + i = t) := by rw [decide_eq_decide]; omega
    simp [h, e]
  · have e : decide (k + i = t) = false := by rw [decide_eq_false_iff_not]; omega
    simp [h, e]
/-- The bits that are turned behind i rounds. -/
def turnX (k mask i : Nat) : Nat := 2 ^ k * (mask % 2 ^ i)
theorem turnX_zero (k mask : Nat) : turnX k mask 0 = 0 := by simp [turnX, Nat.mod_one]
theorem turnX_on (k mask i : Nat) (h : mask.testBit i = true) : turnX k mask (i + 1) = turnX k mask i ^^^ 2 ^ (k + i) := by
  unfold turnX; rw [mask_succ, if_pos h, mul_xor_pow]
theorem turnX_off (k mask i : Nat) (h : mask.testBit i = false) : turnX k mask (i + 1) = turnX k mask i := by
  unfold turnX; rw [mask_succ, h]; simp
/-- The bytes behind i rounds. -/
def turnG (s : Nat → Nat) (k mask i j : Nat) : Nat := s j ^^^ byteOf (turnX k mask i) j
theorem turnG_zero (s : Nat → Nat) (k mask j : Nat) : turnG s k mask 0 j = s j := by
  unfold turnG; rw [turnX_zero]; simp [byteOf]
theorem turnG_on (s : Nat → Nat) (k mask i j : Nat) (h : mask.testBit i = true) : turnG s k mask (i + 1) j = turnG s k mask i j ^^^ (if j = (k + i) / 8 then 2 ^ ((k + i) % 8) else 0) := by
  unfold turnG; rw [turnX_on k mask i h, byteOf_xor, Nat.xor_assoc]
theorem turnG_off (s : Nat → Nat) (k mask i j : Nat) (h : mask.testBit i = false) : turnG s k mask (i + 1) j = turnG s k mask i j := by
  unfold turnG; rw [turnX_off k mask i h]
theorem turnG_256 {s : Nat → Nat} (hs : ∀ i, s i < 256) (k mask i j : Nat) : turnG s k mask i j < 256 := Nat.xor_lt_two_pow (n := 8) (hs j) (byteOf_256 _ _)
/-- What the turned bytes open to: if a bit is turned, they do not. -/
theorem turned_ok {g : Nat → Nat} (hg : ∀ i, g i < 256) (n k mask I : Nat) (hm : mask < 4294967296) (hk : k + I ≤ 8 * (n + 4)) :
    okN (turnG (sealG g n) k mask I) n = decide (mask % 2 ^ I = 0) := by
  by_cases h0 : mask % 2 ^ I = 0
  · rw [decide_eq_true h0]
    have e : turnG (sealG g n) k mask I = sealG g n := by
      funext j
      unfold turnG turnX
      rw [h0]; simp [byteOf]
    rw [e]; exact sealG_ok g n
  · rw [decide_eq_false h0]
    refine burst_found hg n k (mask % 2 ^ I) (by omega) (Nat.lt_of_le_of_lt (Nat.mod_le _ _) hm) h0 ?_
    have h1 : mask % 2 ^ I < 2 ^ I := Nat.mod_lt _ (Nat.pow_pos (by omega))
    have h2 : 2 ^ k * (mask % 2 ^ I) < 2 ^ k * 2 ^ I := Nat.mul_lt_mul_of_pos_left h1 (Nat.pow_pos (by omega))
    rw [← Nat.pow_add] at h2
    refine Nat.lt_of_lt_of_le h2 ?_
    rw [show (256 : Nat) = 2 ^ 8 by rfl, ← Nat.pow_mul]
    exact Nat.pow_le_pow_right (by omega) hk
end Go.Proofs.Ytenmjhkmehckhaa
