import Derived.Test.YtkcfcimophjomaaDiskTrims
import Derived.LoopTactic
namespace Go.Proofs.Ytkcfcimophjomaa
open Go.RowKit
set_option linter.unusedVariables false
set_option linter.unusedSimpArgs false
/-- What of one row is kept. -/
def part (G : Nat → Nat → Nat) (L : Nat → Nat) (W K j : Nat) : List Nat := (fl (G j) (min (L j) 40)).take (if j = W then K else 40)
def allL (G : Nat → Nat → Nat) (L : Nat → Nat) (W K : Nat) : Nat → List Nat
  | 0 => []
  | k + 1 => allL G L W K k ++ part G L W K k
theorem part_len (G : Nat → Nat → Nat) (L : Nat → Nat) (W K j : Nat) : (part G L W K j).length ≤ 40 := by
  unfold part; rw [List.length_take, fl_len]; omega
theorem allL_len (G : Nat → Nat → Nat) (L : Nat → Nat) (W K : Nat) : ∀ k, (allL G L W K k).length ≤ 40 * k
  | 0 => by simp [allL]
  | k + 1 => by
    have h1 := allL_len G L W K k
    have h2 := part_len G L W K k
    simp only [allL, List.length_append]; omega
theorem part_256 (G : Nat → Nat → Nat) (L : Nat → Nat) (W K j : Nat) (h : ∀ i, G j i < 256) : ∀ x ∈ part G L W K j, x < 256 :=
  fun x hx => fl_256 h _ x (List.mem_of_mem_take hx)
theorem allL_256 (G : Nat → Nat → Nat) (L : Nat → Nat) (W K : Nat) : ∀ k, (∀ j, j < k → ∀ i, G j i < 256) → ∀ x ∈ allL G L W K k, x < 256
  | 0, _ => by simp [allL]
  | k + 1, h => fun x hx => by
    rcases List.mem_append.1 hx with h1 | h1
    · exact allL_256 G L W K k (fun j hj => h j (by omega)) x h1
    · exact part_256 G L W K k (h k (by omega)) x h1
/-- A row of rows of bytes. -/
def IsRows (w : World) (a : Option Addr) (n c : Nat) (V : Nat → Value) (L : Nat → Nat) (G : Nat → Nat → Nat) : Prop :=
  n ≤ c ∧ c ≤ 9223372036854775807 ∧ (0 < n → ∃ b off, a = some ⟨b, off, none⟩ ∧ b < w.heap.size ∧ ∀ i, i < n → w.cell? ⟨b, off + i, none⟩ = some (V i) ∧ Rd w (V i) (L i) (G i))
theorem part_all (G : Nat → Nat → Nat) (L : Nat → Nat) (W K j : Nat) (h : j ≠ W) : part G L W K j = fl (G j) (min (L j) 40) := by
  unfold part; rw [if_neg h, List.take_of_length_le (by rw [fl_len]; omega)]
theorem part_cut (G : Nat → Nat → Nat) (L : Nat → Nat) (W K j : Nat) (h : j = W) : part G L W K j = (fl (G j) (min (L j) 40)).take (min K (min (L j) 40)) := by
  unfold part; rw [if_pos h]
  apply List.ext_getElem?
  intro i
  rw [List.getElem?_take, List.getElem?_take]
  by_cases h1 : i < K
  · by_cases h2 : i < min (L j) 40
    · rw [if_pos h1, if_pos (by omega)]
    · rw [if_pos h1, if_neg (by omega), List.getElem?_eq_none (by rw [fl_len]; omega)]
  · rw [if_neg h1, if_neg (by omega)]
end Go.Proofs.Ytkcfcimophjomaa
