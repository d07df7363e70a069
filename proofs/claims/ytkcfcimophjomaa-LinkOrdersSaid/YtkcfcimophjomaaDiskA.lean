import Derived.Test.YtkcfcimophjomaaRd
import Derived.Carry
namespace Go.Proofs.Ytkcfcimophjomaa
open Go.RowKit
set_option linter.unusedVariables false
set_option linter.unusedSimpArgs false
theorem make63 (w : World) : (Instr.makeMap 63 none).run Try.prog w = .ok (.map (some w.heap.size)) (w.alloc (.map #[] 0)) := run_makeMap 63 w
attribute [local go_sem] make63
/-- A disk: the map's block m, its own block behind it, its bytes' row behind these. -/
def IsDisk (w : World) (m : Nat) (bs : List Nat) (d : Bool) (o : Option Int) : Prop :=
  IsM w m o ∧ ∃ v, w.heap[m + 1]? = some (.cells #[v, .bool d, .map (some m)] 65 (0, 0)) ∧ w.ownsRow (m + 2) 5 1 v bs.length (cells8 bs)
theorem IsDisk.lt {w : World} {m : Nat} {bs : List Nat} {d : Bool} {o : Option Int} (h : IsDisk w m bs d o) : m + 1 < w.heap.size := by
  obtain ⟨_, v, h1, _⟩ := h
  exact (Array.getElem?_eq_some_iff.1 h1).1
theorem new_any (w : World) : Calls Try.prog 10 #[] w fun e w' => e = .returned (.pointer (some ⟨w.heap.size + 1, 0, none⟩)) ∧ IsDisk w' w.heap.size [] false none ∧ Below w.heap.size w w' := by
  go_enter Try.func10, Try.ntmps10
  go_wp2
  go_ret
  have h1 := heap_alloc_new w (.map #[] 0)
  have h2 := heap_alloc_new (w.alloc (.map #[] 0)) (.cells #[.slice none 0 0, .bool false, .map (some w.heap.size)] 65)
  have hs : (w.alloc (.map #[] 0)).heap.size = w.heap.size + 1 := by simp
  refine ⟨rfl, ⟨⟨0, ?_⟩, .slice none 0 0, ?_, World.ownsRow_nil _ _ _ _⟩, ((Below.refl _ _).alloc (Nat.le_refl _) _).alloc (by simp) _⟩
  · rw [Below.heap_alloc _ _ _ (by rw [hs]; omega)]; exact h1
  · rw [hs] at h2; exact h2
theorem up_any (p : Nat) (w : World) (d : Bool) (h : w.cell? ⟨p, 1, none⟩ = some (.bool d)) : Calls Try.prog 13 #[.pointer (some ⟨p, 0, none⟩)] w fun e w' => e = .returned (.bool (!d)) ∧ w = w' := by
  go_enter Try.func13, Try.ntmps13
  go_wp2
  go_ret
  exact ⟨rfl, rfl⟩
end Go.Proofs.Ytkcfcimophjomaa
