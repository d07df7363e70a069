import Derived.Test.YtkcfcimophjomaaDiskA
namespace Go.Proofs.Ytkcfcimophjomaa
open Go.RowKit
set_option linter.unusedVariables false
set_option linter.unusedSimpArgs false
theorem IsDisk.cells {w : World} {m : Nat} {bs : List Nat} {d : Bool} {o : Option Int} (h : IsDisk w m bs d o) :
    ∃ v, w.cell? ⟨m + 1, 0, none⟩ = some v ∧ w.cell? ⟨m + 1, 1, none⟩ = some (.bool d) ∧ w.cell? ⟨m + 1, 2, none⟩ = some (.map (some m)) ∧ (∀ i, w.frozen? ⟨m + 1, i, none⟩ = false) ∧ w.ownsRow (m + 2) 5 1 v bs.length (cells8 bs) ∧ IsM w m o := by
  obtain ⟨hm, v, h1, h2⟩ := h
  exact ⟨v, by rw [cell_of_row w (m + 1) 0 _ 65 (0, 0) h1]; rfl, by rw [cell_of_row w (m + 1) 1 _ 65 (0, 0) h1]; rfl, by rw [cell_of_row w (m + 1) 2 _ 65 (0, 0) h1]; rfl, fun i => frozen_of_row w (m + 1) i _ 65 h1, h2, hm⟩
theorem turned.cell {w w' : World} {m b i : Nat} (h : turned w w' m) (hb : b ≠ m) : w'.cell? ⟨b, i, none⟩ = w.cell? ⟨b, i, none⟩ := World.cell?_of_block (h.other hb)
theorem turned.frozen {w w' : World} {m b i : Nat} (h : turned w w' m) (hb : b ≠ m) : w'.frozen? ⟨b, i, none⟩ = w.frozen? ⟨b, i, none⟩ := World.frozen?_of_block (h.other hb)
theorem own_same {w w' : World} {B n : Nat} {v : Value} {xs : List Value} (h : w.ownsRow B 5 1 v n xs) (hk : ∀ k, B ≤ k → w'.heap[k]? = w.heap[k]?) : w'.ownsRow B 5 1 v n xs :=
  ⟨h.1, h.2.imp id fun ⟨g, cap, cur, h1, h2, h3, h4⟩ => ⟨g, cap, cur, h1, h2, (hk g h2).trans h3, h4⟩⟩
theorem IsM.same {w w' : World} {m : Nat} {o : Option Int} (h : IsM w m o) (hk : w'.heap[m]? = w.heap[m]?) : IsM w' m o := by
  cases o with
  | none => obtain ⟨c, h⟩ := h; exact ⟨c, hk.trans h⟩
  | some n => obtain ⟨c, b, h⟩ := h; exact ⟨c, b, hk.trans h⟩
/-- The map is cleared, then the power's mark is set. -/
theorem IsDisk.power {w w1 : World} {m : Nat} {bs : List Nat} {d : Bool} {o : Option Int} (h : IsDisk w m bs d o) (hm1 : IsM w1 m none) (ht : turned w w1 m) (x : Bool) :
    IsDisk (w1.setCell ⟨m + 1, 1, none⟩ (.bool x)) m bs x none ∧ Below m w (w1.setCell ⟨m + 1, 1, none⟩ (.bool x)) := by
  obtain ⟨_, v, h1, h2⟩ := h
  have h3 : w1.heap[m + 1]? = some (.cells #[v, .bool d, .map (some m)] 65 (0, 0)) := (ht.other (by omega)).trans h1
  refine ⟨⟨hm1.same (heap_setCell_other w1 ⟨m + 1, 1, none⟩ m _ (by simp)), v, ?_, own_same h2 (fun k hk => (heap_setCell_other w1 ⟨m + 1, 1, none⟩ k _ (by simp; omega)).trans (ht.other (by omega)))⟩, (ht.below (Nat.le_refl _)).setCell (by simp) _⟩
  exact heap_setCell_same w1 (m + 1) 1 _ 65 _ h3
theorem crash_any (w : World) (m : Nat) (bs : List Nat) (d : Bool) (o : Option Int) (h : IsDisk w m bs d o) :
    Calls Try.prog 25 #[.pointer (some ⟨m + 1, 0, none⟩)] w fun e w' => e = .returned (.tuple #[]) ∧ IsDisk w' m bs true none ∧ Below m w w' := by
  obtain ⟨v, c0, c1, c2, cf, cown, cm⟩ := h.cells
  obtain ⟨w1, hr, hm1, ht1⟩ := clear_any cm 0
  have k1 : w1.cell? ⟨m + 1, 1, none⟩ = some (.bool d) := (ht1.cell (by omega)).trans c1
  have k2 : w1.frozen? ⟨m + 1, 1, none⟩ = false := (ht1.frozen (by omega)).trans (cf 1)
  have HM := Lib.hid hm1
  have HO := Lib.hid cown
  have HH := Lib.hid h
  clear hm1 cown cm h
  go_enter Try.func25, Try.ntmps25
  go_wp2
  go_end0
  have h1 := HH.out.power HM.out ht1 true
  exact ⟨rfl, h1.1, h1.2⟩
theorem start_any (w : World) (m : Nat) (bs : List Nat) (d : Bool) (o : Option Int) (h : IsDisk w m bs d o) :
    Calls Try.prog 15 #[.pointer (some ⟨m + 1, 0, none⟩)] w fun e w' => e = .returned (.tuple #[]) ∧ IsDisk w' m bs false none ∧ Below m w w' := by
  obtain ⟨v, c0, c1, c2, cf, cown, cm⟩ := h.cells
  obtain ⟨w1, hr, hm1, ht1⟩ := clear_any cm 0
  have k1 : w1.cell? ⟨m + 1, 1, none⟩ = some (.bool d) := (ht1.cell (by omega)).trans c1
  have k2 : w1.frozen? ⟨m + 1, 1, none⟩ = false := (ht1.frozen (by omega)).trans (cf 1)
  have HM := Lib.hid hm1
  have HO := Lib.hid cown
  have HH := Lib.hid h
  clear hm1 cown cm h
  go_enter Try.func15, Try.ntmps15
  go_wp2
  go_end0
  have h1 := HH.out.power HM.out ht1 false
  exact ⟨rfl, h1.1, h1.2⟩
end Go.Proofs.Ytkcfcimophjomaa
