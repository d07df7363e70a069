import Derived.Test.YtnddifenlamhjaaBase
namespace Go.Proofs.Ytnddifenlamhjaa
open Go.RowKit
set_option linter.unusedVariables false
set_option linter.unusedSimpArgs false

theorem enc_len10 {n : Nat} (h : n < 18446744073709551616) : (enc n).length ≤ 10 := enc_len 9 n (by omega)
/-- Put's contract, the slice written out. -/
theorem put_at (n : Nat) (w : World) (hn : n < 18446744073709551616) :
    Calls Try.prog 13 #[.int .u64 n] w fun e w' => ∃ (b m c : Nat), e = .returned (.slice (some ⟨b, 0, none⟩) (m + 1) c) ∧ (enc n).length = m + 1 ∧ m + 1 ≤ c ∧ c ≤ 9223372036854775807 ∧ b < w'.heap.size ∧ w.heap.size ≤ b ∧
      (∀ i, i < m + 1 → w'.cell? ⟨b, i, none⟩ = some (.int .u8 (eg n i : Nat))) ∧ (∀ i, w'.frozen? ⟨b, i, none⟩ = false) ∧ w'.ownsRow w.heap.size 5 1 (.slice (some ⟨b, 0, none⟩) (m + 1) c) (m + 1) (cells8 (enc n)) ∧ Below w.heap.size w w' := by
  refine (put_any n w hn).mono ?_
  rintro e w' ⟨v, rfl, hown, hb⟩
  have hp := enc_pos n
  obtain ⟨m, hm⟩ : ∃ m, (enc n).length = m + 1 := ⟨(enc n).length - 1, by omega⟩
  rw [hm] at hown
  have hown0 := hown
  rcases hown.2 with ⟨_, hv⟩ | ⟨g, cap, cur, rfl, hg0, hg, hle, hcm, hcs, ht⟩
  · omega
  · have hlt : g < w'.heap.size := (Array.getElem?_eq_some_iff.1 hg).1
    refine ⟨g, m, cap, rfl, hm, hle, by unfold maxLen at hcm; omega, hlt, hg0, fun i hi => ?_, fun i => frozen_of_row w' g i cur 5 hg, hown0, hb⟩
    rw [cell_of_row w' g i cur 5 (0, 0) hg]
    have h2 : (cells8 (enc n))[i]? = some (.int .u8 (eg n i : Nat)) := by
      unfold cells8 eg
      rw [List.getElem?_map, List.getElem?_eq_getElem (by omega)]
      simp [List.getD, List.getElem?_eq_getElem (show i < (enc n).length by omega)]
    rw [← ht, List.getElem?_take, if_pos (by omega)] at h2
    simpa using h2

theorem enc_mono : ∀ (a b : Nat), a ≤ b → (enc a).length ≤ (enc b).length := by
  intro a
  induction a using Nat.strongRecOn with
  | ind a ih =>
    intro b h
    have hp := enc_pos b
    by_cases ha : a < 128
    · rw [len_lo ha]; omega
    · rw [len_hi ha, len_hi (show ¬ b < 128 by omega)]
      have := ih (a / 128) (by omega) (b / 128) (Nat.div_le_div_right h)
      omega

end Go.Proofs.Ytnddifenlamhjaa
