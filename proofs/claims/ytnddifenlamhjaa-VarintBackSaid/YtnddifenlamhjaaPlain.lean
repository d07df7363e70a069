namespace Go.Proofs.Ytnddifenlamhjaa

/-- A number's bytes. -/
def enc (n : Nat) : List Nat := if n < 128 then [n] else (n % 128 + 128) :: enc (n / 128)
termination_by n
decreasing_by omega
theorem enc_lo {n : Nat} (h : n < 128) : enc n = [n] := by rw [enc, if_pos h]
theorem enc_hi {n : Nat} (h : ¬ n < 128) : enc n = (n % 128 + 128) :: enc (n / 128) := by rw [enc, if_neg h]

theorem enc_len : ∀ (k n : Nat), n < 128 ^ (k + 1) → (enc n).length ≤ k + 1
  | 0, n, h => by rw [enc_lo (by simpa using h)]; simp
  | k + 1, n, h => by
    by_cases h1 : n < 128
    · rw [enc_lo h1]; simp
    · rw [enc_hi h1]
      have := enc_len k (n / 128) (by rw [Nat.div_lt_iff_lt_mul (by omega)]; rw [Nat.pow_succ] at h; exact h)
      simp; omega


def nx (acc c i : Nat) : Nat := acc + (c % 128) * 2 ^ (7 * i) % 18446744073709551616
def tkg (g : Nat → Nat) : Nat → Nat → Nat → Option (Nat × Nat × Nat)
  | 0, _, _ => none
  | r + 1, i, acc =>
    if 128 ≤ g i then tkg g r (i + 1) (nx acc (g i) i)
    else if (g i = 0 ∧ 0 < i) ∨ (i = 9 ∧ 1 < g i) then some (0, 0, 3) else some (nx acc (g i) i, i + 1, 0)
def tkF (g : Nat → Nat) (n : Nat) : Nat × Nat × Nat := (tkg g (min n 10) 0 0).getD (0, 0, if 10 ≤ n then 3 else 2)


/-- What k bytes come to. -/
def S (g : Nat → Nat) : Nat → Nat
  | 0 => 0
  | k + 1 => S g k + (g k % 128) * 128 ^ k
theorem S_lt (g : Nat → Nat) : ∀ k, S g k < 128 ^ k
  | 0 => by simp [S]
  | k + 1 => by
    have := S_lt g k
    have h : (g k % 128) * 128 ^ k ≤ 127 * 128 ^ k := Nat.mul_le_mul_right _ (by omega)
    simp only [S, Nat.pow_succ]
    omega
theorem pow7 (k : Nat) : 2 ^ (7 * k) = 128 ^ k := by rw [Nat.pow_mul]
theorem nx_S (g : Nat → Nat) (k : Nat) (hk : k ≤ 9) (h9 : k = 9 → g k ≤ 1) : nx (S g k) (g k) k = S g (k + 1) := by
  unfold nx
  rw [pow7]
  have : (g k % 128) * 128 ^ k < 18446744073709551616 := by
    by_cases h : k = 9
    · have := h9 h
      subst h
      have h1 : g 9 % 128 ≤ 1 := by omega
      have h2 : (g 9 % 128) * 128 ^ 9 ≤ 1 * 128 ^ 9 := Nat.mul_le_mul_right _ h1
      have h3 : (128 : Nat) ^ 9 = 9223372036854775808 := by decide
      omega
    · have h2 : (g k % 128) * 128 ^ k ≤ 127 * 128 ^ k := Nat.mul_le_mul_right _ (by omega)
      have h3 : (128 : Nat) ^ k ≤ 128 ^ 8 := Nat.pow_le_pow_right (by omega) (by omega)
      have h4 : (128 : Nat) ^ 8 = 72057594037927936 := by decide
      omega
  rw [Nat.mod_eq_of_lt this]
  rfl
def bad (g : Nat → Nat) (k : Nat) : Prop := (g k = 0 ∧ 0 < k) ∨ (k = 9 ∧ 1 < g k)
instance instBad (g : Nat → Nat) (k : Nat) : Decidable (bad g k) := by unfold bad; infer_instance
theorem tkg_run (g : Nat → Nat) : ∀ (r i acc m : Nat), (∀ j, j < m → 128 ≤ g (i + j)) → m < r → g (i + m) < 128 → i + m ≤ 9 → acc = S g i →
    tkg g r i acc = if bad g (i + m) then some (0, 0, 3) else some (S g (i + m + 1), i + m + 1, 0)
  | 0, _, _, _, _, h, _, _, _ => by omega
  | r + 1, i, acc, 0, _, _, hl, h9, ha => by
    simp only [Nat.add_zero] at hl h9 ⊢
    unfold tkg
    rw [if_neg (by omega)]
    subst ha
    by_cases hb : bad g i
    · rw [if_pos hb, if_pos (by unfold bad at hb; exact hb)]
    · rw [if_neg hb, if_neg (by unfold bad at hb; exact hb), nx_S g i (by omega) (by unfold bad at hb; omega)]
  | r + 1, i, acc, m + 1, hm, hr, hl, h9, ha => by
    have h0 := hm 0 (by omega)
    simp only [Nat.add_zero] at h0
    unfold tkg
    rw [if_pos h0]
    have := tkg_run g r (i + 1) (nx acc (g i) i) m (fun j hj => by have := hm (j + 1) (by omega); rwa [show i + 1 + j = i + (j + 1) by omega]) (by omega) (by rwa [show i + 1 + m = i + (m + 1) by omega]) (by omega)
      (by subst ha; exact nx_S g i (by omega) (by omega))
    rw [this, show i + 1 + m = i + (m + 1) by omega]
theorem tkg_none (g : Nat → Nat) : ∀ (r i acc : Nat), (∀ j, j < r → 128 ≤ g (i + j)) → tkg g r i acc = none
  | 0, _, _, _ => rfl
  | r + 1, i, acc, h => by
    have h0 := h 0 (by omega)
    simp only [Nat.add_zero] at h0
    unfold tkg
    rw [if_pos h0]
    exact tkg_none g r (i + 1) _ (fun j hj => by have := h (j + 1) (by omega); rwa [show i + 1 + j = i + (j + 1) by omega])
/-- What Take tells where a byte below 128 comes first at k. -/
theorem tkF_at (g : Nat → Nat) (n k : Nat) (hk : k < min n 10) (hm : ∀ j, j < k → 128 ≤ g j) (hl : g k < 128) :
    tkF g n = if bad g k then (0, 0, 3) else (S g (k + 1), k + 1, 0) := by
  unfold tkF
  rw [tkg_run g (min n 10) 0 0 k (fun j hj => by simpa using hm j hj) hk (by simpa using hl) (by omega) rfl]
  simp only [Nat.zero_add]
  split <;> rfl
theorem tkF_all (g : Nat → Nat) (n : Nat) (hm : ∀ j, j < min n 10 → 128 ≤ g j) : tkF g n = (0, 0, if 10 ≤ n then 3 else 2) := by
  unfold tkF
  rw [tkg_none g _ 0 0 (fun j hj => by simpa using hm j hj)]
  rfl
/-- Either all of the first ones go on, or there is a first one that does not. -/
theorem first_low (g : Nat → Nat) : ∀ m, (∀ j, j < m → 128 ≤ g j) ∨ ∃ k, k < m ∧ (∀ j, j < k → 128 ≤ g j) ∧ g k < 128
  | 0 => .inl (by omega)
  | m + 1 => by
    rcases first_low g m with h | ⟨k, hk, h1, h2⟩
    · by_cases hl : 128 ≤ g m
      · refine .inl fun j hj => ?_
        by_cases e : j = m
        · subst e; exact hl
        · exact h j (by omega)
      · exact .inr ⟨m, by omega, h, by omega⟩
    · exact .inr ⟨k, by omega, h1, h2⟩
theorem tkF_cases (g : Nat → Nat) (n : Nat) : (tkF g n = (0, 0, if 10 ≤ n then 3 else 2) ∧ ∀ j, j < min n 10 → 128 ≤ g j) ∨
    ∃ k, k < min n 10 ∧ (∀ j, j < k → 128 ≤ g j) ∧ g k < 128 ∧ tkF g n = if bad g k then (0, 0, 3) else (S g (k + 1), k + 1, 0) := by
  rcases first_low g (min n 10) with h | ⟨k, hk, h1, h2⟩
  · exact .inl ⟨tkF_all g n h, h⟩
  · exact .inr ⟨k, hk, h1, h2, tkF_at g n k hk h1 h2⟩

/-- The list of the first bytes. -/
def fl (g : Nat → Nat) (n : Nat) : List Nat := (List.range n).map g
theorem fl_succ (g : Nat → Nat) (n : Nat) : fl g (n + 1) = g 0 :: fl (fun i => g (i + 1)) n := by
  unfold fl
  rw [List.range_succ_eq_map]
  simp [Function.comp_def]
theorem S_shift (g : Nat → Nat) : ∀ k, S g (k + 1) = g 0 % 128 + 128 * S (fun i => g (i + 1)) k
  | 0 => by simp [S]
  | k + 1 => by
    have := S_shift g k
    rw [S, this, S]
    rw [Nat.mul_add, Nat.add_assoc]
    congr 1
    rw [Nat.pow_succ]
    congr 1
    rw [Nat.mul_comm 128, Nat.mul_assoc]
/-- The bytes of what they come to are these bytes, if the last one is not a nought. -/
theorem enc_S : ∀ (k : Nat) (g : Nat → Nat), (∀ i, i < k → 128 ≤ g i ∧ g i < 256) → g k < 128 → (k = 0 ∨ g k ≠ 0) → enc (S g (k + 1)) = fl g (k + 1)
  | 0, g, _, hl, _ => by
    rw [fl_succ]
    have : S g 1 = g 0 := by simp [S]; omega
    rw [this, enc_lo hl]
    rfl
  | k + 1, g, hm, hl, hz => by
    have h0 := hm 0 (by omega)
    rw [S_shift, fl_succ]
    have ih := enc_S k (fun i => g (i + 1)) (fun i hi => hm (i + 1) (by omega)) hl (by omega)
    have hpos : 0 < S (fun i => g (i + 1)) (k + 1) := by
      have hlast : 0 < (g (k + 1) % 128) * 128 ^ k := Nat.mul_pos (by omega) (Nat.pow_pos (by omega))
      simp only [S]
      omega
    rw [enc_hi (by omega)]
    have e1 : (g 0 % 128 + 128 * S (fun i => g (i + 1)) (k + 1)) % 128 + 128 = g 0 := by omega
    have e2 : (g 0 % 128 + 128 * S (fun i => g (i + 1)) (k + 1)) / 128 = S (fun i => g (i + 1)) (k + 1) := by omega
    rw [e1, e2, ih]
/-- A number's bytes, looked up. -/
def eg (n : Nat) : Nat → Nat := fun i => (enc n).getD i 0
theorem enc_ne (n : Nat) : enc n ≠ [] := by
  by_cases h : n < 128
  · rw [enc_lo h]; simp
  · rw [enc_hi h]; simp
theorem enc_pos (n : Nat) : 0 < (enc n).length := List.length_pos_iff.2 (enc_ne n)
theorem eg_lo {n : Nat} (h : n < 128) : eg n 0 = n := by unfold eg; rw [enc_lo h]; rfl
theorem eg_zero {n : Nat} (h : ¬ n < 128) : eg n 0 = n % 128 + 128 := by unfold eg; rw [enc_hi h]; rfl
theorem eg_succ {n : Nat} (h : ¬ n < 128) (i : Nat) : eg n (i + 1) = eg (n / 128) i := by unfold eg; rw [enc_hi h]; rfl
theorem len_hi {n : Nat} (h : ¬ n < 128) : (enc n).length = (enc (n / 128)).length + 1 := by rw [enc_hi h]; rfl
theorem len_lo {n : Nat} (h : n < 128) : (enc n).length = 1 := by rw [enc_lo h]; rfl
/-- All but the last one go on; the last one does not, and is no nought where there are several. -/
theorem eg_spec (n : Nat) : (∀ i, i + 1 < (enc n).length → 128 ≤ eg n i ∧ eg n i < 256) ∧ eg n ((enc n).length - 1) < 128 ∧ ((enc n).length = 1 ∨ eg n ((enc n).length - 1) ≠ 0) ∧ S (eg n) (enc n).length = n := by
  induction n using Nat.strongRecOn with
  | ind n ih =>
    by_cases h : n < 128
    · have hl := len_lo h
      refine ⟨by intro i hi; omega, ?_, .inl hl, ?_⟩
      · rw [hl, eg_lo h]; exact h
      · rw [hl]; simp [S, eg_lo h]; omega
    · obtain ⟨h1, h2, h3, h4⟩ := ih (n / 128) (by omega)
      have hl := len_hi h
      have hp := enc_pos (n / 128)
      have hlast : eg n ((enc n).length - 1) = eg (n / 128) ((enc (n / 128)).length - 1) := by
        rw [hl, show (enc (n / 128)).length + 1 - 1 = ((enc (n / 128)).length - 1) + 1 by omega, eg_succ h]
      refine ⟨?_, by rw [hlast]; exact h2, .inr ?_, ?_⟩
      · intro i hi
        cases i with
        | zero => rw [eg_zero h]; omega
        | succ i => rw [eg_succ h]; exact h1 i (by omega)
      · rw [hlast]
        rcases h3 with h3 | h3
        · rw [h3]
          have h5 := h4
          rw [h3] at h5
          simp [S] at h5
          rw [h3] at h2
          have : eg (n / 128) 0 = n / 128 := by simp at h2; omega
          simp [this]; omega
        · exact h3
      · rw [hl, S_shift]
        have e : (fun i => eg n (i + 1)) = eg (n / 128) := funext fun i => eg_succ h i
        rw [e, h4, eg_zero h]
        omega
theorem eg_256 (n i : Nat) : eg n i < 256 := by
  obtain ⟨h1, h2, _, _⟩ := eg_spec n
  rcases Nat.lt_or_ge (i + 1) (enc n).length with h | h
  · exact (h1 i h).2
  · by_cases e : i = (enc n).length - 1
    · subst e; omega
    · have : (enc n).length ≤ i := by omega
      unfold eg
      rw [List.getD_eq_getElem?_getD, List.getElem?_eq_none this]
      simp
theorem fl_eg (n : Nat) : fl (eg n) (enc n).length = enc n := by
  apply List.ext_getElem?
  intro i
  unfold fl eg
  rcases Nat.lt_or_ge i (enc n).length with h | h
  · simp [List.getElem?_map, List.getElem?_range h, List.getElem?_eq_getElem h]
  · rw [List.getElem?_eq_none (by simpa using h), List.getElem?_eq_none h]
end Go.Proofs.Ytnddifenlamhjaa
