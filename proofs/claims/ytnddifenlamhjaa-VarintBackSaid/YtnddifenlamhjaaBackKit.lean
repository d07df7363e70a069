import Derived.Test.YtnddifenlamhjaaWb
namespace Go.Proofs.Ytnddifenlamhjaa
open Go.RowKit
set_option linter.unusedVariables false
set_option linter.unusedSimpArgs false

theorem few_at (a : Option Addr) (n c : Nat) (w : World) (h : n ≤ c) (hc : c ≤ 9223372036854775807) : Calls Try.prog 11 #[.slice a n c] w fun e w' => e = .returned (.slice a (min n 20) c) ∧ w = w' := by
  by_cases h20 : 20 < n
  · go_enter Try.func11, Try.ntmps11
    go_wp2
    go_ret
    exact ⟨by rw [show min n 20 = 20 by omega]; rfl, rfl⟩
  · go_enter Try.func11, Try.ntmps11
    go_wp2
    go_ret
    exact ⟨by rw [show min n 20 = n by omega]; rfl, rfl⟩
/-- A number that was put is taken, whatever stands behind it. -/
theorem tkF_put (n m N : Nat) (g : Nat → Nat) (hn : n < 18446744073709551616) (hm : (enc n).length = m + 1) (hg : ∀ i, i < m + 1 → g i = eg n i) : tkF g (m + 1 + N) = (n, m + 1, 0) := by
  obtain ⟨h1, h2, h3, h4⟩ := eg_spec n
  rw [hm] at h2 h3 h4
  simp only [Nat.add_sub_cancel] at h2 h3
  have h10 : m + 1 ≤ 10 := by rw [← hm]; exact enc_len10 hn
  have hS : S g (m + 1) = n := by rw [S_eq (m + 1) hg]; exact h4
  have hgm := hg m (by omega)
  rw [tkF_at g (m + 1 + N) m (by omega) (fun j hj => by rw [hg j (by omega)]; exact (h1 j (by omega)).1) (by rw [hgm]; exact h2), if_neg, hS]
  unfold bad
  rw [hgm]
  intro h
  rcases h with ⟨z0, z1⟩ | ⟨e, z1⟩
  · rcases h3 with h3 | h3
    · omega
    · exact h3 z0
  · subst e
    have h5 : 2 * 128 ^ 9 ≤ (eg n 9 % 128) * 128 ^ 9 := Nat.mul_le_mul_right _ (by omega)
    have h6 : (128 : Nat) ^ 9 = 9223372036854775808 := by decide
    rw [S] at h4
    omega
/-- What Take tells of any bytes. -/
theorem tkF_told (g : Nat → Nat) (hg : ∀ i, g i < 256) (n x k e : Nat) (h : tkF g n = (x, k, e)) :
    (e = 0 ∧ 1 ≤ k ∧ k ≤ n ∧ x < 18446744073709551616 ∧ enc x = fl g k) ∨ (x = 0 ∧ k = 0 ∧ (e = 2 ∨ e = 3)) := by
  rcases tkF_cases g n with ⟨hq, _⟩ | ⟨K, hK, hm, hl, hq⟩
  · rw [hq] at h
    simp only [Prod.mk.injEq] at h
    obtain ⟨rfl, rfl, rfl⟩ := h
    right; refine ⟨rfl, rfl, ?_⟩; split <;> simp
  · rw [hq] at h
    by_cases hb : bad g K
    · rw [if_pos hb] at h
      simp only [Prod.mk.injEq] at h
      obtain ⟨rfl, rfl, rfl⟩ := h
      exact .inr ⟨rfl, rfl, .inr rfl⟩
    · rw [if_neg hb] at h
      simp only [Prod.mk.injEq] at h
      obtain ⟨rfl, rfl, rfl⟩ := h
      obtain ⟨h1, h2⟩ := enc_mod g K (by omega) hm hg hl
      have h3 := h2 hb
      left
      refine ⟨rfl, by omega, by omega, ?_, ?_⟩
      · rw [← h3]; exact Nat.mod_lt _ (by omega)
      · have := h1.2 hb
        rwa [h3] at this
theorem getD_app (xs ys : List Nat) (i : Nat) (h : i < xs.length) : (xs ++ ys).getD i 0 = xs.getD i 0 := by
  rw [List.getD_eq_getElem?_getD, List.getElem?_append_left h, List.getD_eq_getElem?_getD]
theorem getD_256 (n N : Nat) (g : Nat → Nat) (hg : ∀ i, g i < 256) (i : Nat) : (enc n ++ fl g N).getD i 0 < 256 := by
  rw [List.getD_eq_getElem?_getD]
  rcases Nat.lt_or_ge i (enc n).length with h | h
  · rw [List.getElem?_append_left h]
    have := eg_256 n i
    unfold eg at this
    rwa [List.getD_eq_getElem?_getD] at this
  · rw [List.getElem?_append_right h]
    generalize i - (enc n).length = j
    rcases Nat.lt_or_ge j N with h2 | h2
    · rw [fl_take g N j h2]; exact hg j
    · rw [List.getElem?_eq_none (by simpa [fl] using h2)]; simp
theorem cells8_append (xs ys : List Nat) : cells8 (xs ++ ys) = cells8 xs ++ cells8 ys := by simp [cells8]
theorem cells8_len (xs : List Nat) : (cells8 xs).length = xs.length := by simp [cells8]
theorem cells8_one (xs : List Nat) : ∀ u ∈ cells8 xs, u.oneCell' = true := by
  intro u hu
  obtain ⟨x, _, rfl⟩ := List.mem_map.1 hu
  rfl
end Go.Proofs.Ytnddifenlamhjaa
