import Derived.Test.YtkcfcimophjomaaChecked
import Derived.WalkKit
import Derived.ProofKit
import Derived.Lib.Hide
import Derived.Below
import Derived.MapKept
namespace Go.Proofs.Ytkcfcimophjomaa
open Go.RowKit
set_option linter.unusedVariables false
set_option linter.unusedSimpArgs false
/-- The cut's name. -/
def keepV : Value := .string ⟨#[107, 101, 101, 112]⟩
/-- What a disk's map holds: nothing, or how many are kept. -/
def IsM (w : World) (m : Nat) : Option Int → Prop
  | none => ∃ clock, w.heap[m]? = some (.map #[] clock)
  | some n => ∃ clock born, w.heap[m]? = some (.map #[⟨keepV, .int .i64 n, born⟩] clock)
theorem find_none : (Instr.findNow .string keepV [] 0) = some none := rfl
theorem find_some (n : Int) (born : Nat) : (Instr.findNow .string keepV [⟨keepV, .int .i64 n, born⟩] 0) = some (some (0, .int .i64 n)) := by
  have e : (({ data := #[107, 101, 101, 112] } : ByteArray) == { data := #[107, 101, 101, 112] }) = true := by decide +kernel
  simp [Instr.findNow, Instr.sameNow, keepV, e]
theorem zero3 (w : World) : (zeroValue 3).run Try.prog w = .ok (.int .i64 0) w := by
  obtain ⟨i0, hi, hz0, hz1, hz2⟩ := info_parts (P := Try.prog) (e := 3) (z := .int .i64 0) (size := 1) (bytes := 8) (by kernel_rfl)
  simp [zeroValue, typeInfo, hi, hz0]
theorem look_none {w : World} {m : Nat} (h : IsM w m none) : (Instr.lookup 63 (.map (some m)) keepV true).run Try.prog w = .ok (.tuple #[.int .i64 0, .bool false]) w := by
  obtain ⟨clock, h⟩ := h
  have h1 := fun e => MapKept.run_checkKey (P := Try.prog) (w := w) (k := keepV) Try.underlying9 (by simp [keepV, MapKept.IsKey]) e 9999
  have h2 := MapKept.run_findKey (P := Try.prog) (w := w) (k := keepV) Try.underlying9 find_none
  simp [Instr.lookup, run_underlying Try.underlying63, MapKept.run_getObj_map h, h1, h2, zero3]
theorem look_some {w : World} {m : Nat} {n : Int} (h : IsM w m (some n)) : (Instr.lookup 63 (.map (some m)) keepV true).run Try.prog w = .ok (.tuple #[.int .i64 n, .bool true]) w := by
  obtain ⟨clock, born, h⟩ := h
  have h1 := fun e => MapKept.run_checkKey (P := Try.prog) (w := w) (k := keepV) Try.underlying9 (by simp [keepV, MapKept.IsKey]) e 9999
  have h2 := MapKept.run_findKey (P := Try.prog) (w := w) (k := keepV) Try.underlying9 (find_some n born)
  simp [Instr.lookup, run_underlying Try.underlying63, MapKept.run_getObj_map h, h1, h2, zero3]
/-- The map's block is another one, the others are as they were. -/
def turned (w w' : World) (m : Nat) : Prop := ∃ o o', w.heap[m]? = some o ∧ w' = { w with heap := w.heap.setIfInBounds m o' }
theorem turned.size {w w' : World} {m : Nat} (h : turned w w' m) : w'.heap.size = w.heap.size := by
  obtain ⟨o, o', _, rfl⟩ := h; simp
theorem turned.other {w w' : World} {m k : Nat} (h : turned w w' m) (hk : k ≠ m) : w'.heap[k]? = w.heap[k]? := by
  obtain ⟨o, o', h, rfl⟩ := h; exact (MapKept.heap_set h).2 k hk
theorem turned.below {w w' : World} {m B : Nat} (h : turned w w' m) (hB : B ≤ m) : Below B w w' := by
  have h1 := h.size
  have h2 := fun k hk => turned.other (k := k) h hk
  obtain ⟨o, o', h, rfl⟩ := h
  exact ⟨rfl, rfl, rfl, by rw [h1]; exact Nat.le_refl _, fun k hk => h2 k (by omega)⟩
theorem clear_any {w : World} {m : Nat} {o : Option Int} (h : IsM w m o) (ty : TypeId) : ∃ w', (Builtin.clear_ #[63] ty #[.map (some m)]).run Try.prog w = .ok (.tuple #[]) w' ∧ IsM w' m none ∧ turned w w' m := by
  cases o with
  | none =>
    obtain ⟨clock, h⟩ := h
    refine ⟨{ w with heap := w.heap.setIfInBounds m (.map #[] clock) }, ?_, ⟨clock, (MapKept.heap_set h).1⟩, ⟨_, _, h, rfl⟩⟩
    simp [Builtin.clear_, run_underlying Try.underlying63, MapKept.run_getObj_map h, MapKept.run_setObj_map _ h]
  | some n =>
    obtain ⟨clock, born, h⟩ := h
    refine ⟨{ w with heap := w.heap.setIfInBounds m (.map #[] clock) }, ?_, ⟨clock, (MapKept.heap_set h).1⟩, ⟨_, _, h, rfl⟩⟩
    simp [Builtin.clear_, run_underlying Try.underlying63, MapKept.run_getObj_map h, MapKept.run_setObj_map _ h]
theorem update_none {w : World} {m : Nat} (h : IsM w m none) (n : Int) : ∃ w', (Instr.mapUpdate 63 (.map (some m)) keepV (.int .i64 n)).run Try.prog w = .ok () w' ∧ IsM w' m (some n) ∧ turned w w' m := by
  obtain ⟨clock, h⟩ := h
  have h1 := fun e => MapKept.run_checkKey (P := Try.prog) (w := w) (k := keepV) Try.underlying9 (by simp [keepV, MapKept.IsKey]) e 9999
  have h2 := MapKept.run_findKey (P := Try.prog) (w := w) (k := keepV) Try.underlying9 find_none
  refine ⟨{ w with heap := w.heap.setIfInBounds m (.map #[⟨keepV, .int .i64 n, clock⟩] (clock + 1)) }, ?_, ⟨clock + 1, clock, (MapKept.heap_set h).1⟩, ⟨_, _, h, rfl⟩⟩
  simp [Instr.mapUpdate, run_underlying Try.underlying63, MapKept.run_getObj_map h, MapKept.run_setObj_map _ h, h1, h2]
end Go.Proofs.Ytkcfcimophjomaa
