import Derived.Test.YtkcfcimophjomaaDiskB
namespace Go.Proofs.Ytkcfcimophjomaa
open Go.RowKit
set_option linter.unusedVariables false
set_option linter.unusedSimpArgs false
theorem bytes_any (w : World) (m : Nat) (bs : List Nat) (d : Bool) (o : Option Int) (h : IsDisk w m bs d o) (hb : ∀ i, bs.getD i 0 < 256) (hn : bs.length ≤ 100000) :
    Calls Try.prog 14 #[.pointer (some ⟨m + 1, 0, none⟩)] w fun e w' => ∃ v', e = .returned v' ∧ Rd w' v' bs.length (fun i => bs.getD i 0) ∧ Below w.heap.size w w' := by
  obtain ⟨v, c0, c1, c2, cf, cown, cm⟩ := h.cells
  have hR := Rd.of_own cown hb
  have HR := Lib.hid hR
  obtain ⟨a, c, rfl, _, _⟩ := hR.take
  clear hR cown cm h
  go_enter Try.func14, Try.ntmps14
  go_wp2_with (fail)
  go_at_call 34; refine (clone_any HR.out hn).mono ?_; rintro e w2 ⟨v2, rfl, hR2, hb2⟩
  have HR2 := Lib.hid hR2
  clear hR2
  go_wp2_with (fail)
  go_ret
  exact ⟨v2, rfl, HR2.out, hb2⟩
theorem cut_any (w : World) (m : Nat) (bs : List Nat) (d : Bool) (n : Int) (h : IsDisk w m bs d none) :
    Calls Try.prog 12 #[.pointer (some ⟨m + 1, 0, none⟩), .int .i64 n] w fun e w' => e = .returned (.tuple #[]) ∧ IsDisk w' m bs d (some n) ∧ Below m w w' := by
  obtain ⟨v, c0, c1, c2, cf, cown, cm⟩ := h.cells
  obtain ⟨w1, hr, hm1, ht1⟩ := update_none cm n
  unfold keepV at hr
  have HM := Lib.hid hm1
  have HH := Lib.hid h
  clear hm1 cown cm h
  go_enter Try.func12, Try.ntmps12
  go_wp2
  go_end0
  obtain ⟨_, v', h1, h2⟩ := HH.out
  exact ⟨rfl, ⟨HM.out, v', (ht1.other (by omega)).trans h1, own_same h2 (fun k hk => ht1.other (by omega))⟩, ht1.below (Nat.le_refl _)⟩
theorem IsDisk.below {w w' : World} {m : Nat} {bs : List Nat} {d : Bool} {o : Option Int} (h : IsDisk w m bs d o) (hb : Below w.heap.size w w') : IsDisk w' m bs d o := by
  have hl := h.lt
  obtain ⟨hm, v, h1, h2⟩ := h
  refine ⟨hm.same (hb.block m (by omega)), v, (hb.block (m + 1) hl).trans h1, h2.1, ?_⟩
  rcases h2.2 with h3 | ⟨g, cap, cur, h3, h4, h5, h6⟩
  · exact .inl h3
  · exact .inr ⟨g, cap, cur, h3, h4, (hb.block g (Array.getElem?_eq_some_iff.1 h5).1).trans h5, h6⟩
/-- The bytes are other ones, behind the disk. -/
theorem IsDisk.store {w w1 : World} {m : Nat} {bs bs' : List Nat} {d : Bool} {o : Option Int} (h : IsDisk w m bs d o) (hb : Below (m + 2) w w1) {v' : Value} (hv : w1.ownsRow (m + 2) 5 1 v' bs'.length (cells8 bs')) :
    IsDisk (w1.setCell ⟨m + 1, 0, none⟩ v') m bs' d o ∧ Below m w (w1.setCell ⟨m + 1, 0, none⟩ v') := by
  obtain ⟨hm, v, h1, h2⟩ := h
  have h3 : w1.heap[m + 1]? = some (.cells #[v, .bool d, .map (some m)] 65 (0, 0)) := (hb.block (m + 1) (by omega)).trans h1
  refine ⟨⟨(hm.same (hb.block m (by omega))).same (heap_setCell_other w1 ⟨m + 1, 0, none⟩ m _ (by simp)), v', heap_setCell_same w1 (m + 1) 0 _ 65 _ h3, own_same hv (fun k hk => heap_setCell_other w1 ⟨m + 1, 0, none⟩ k _ (by simp; omega))⟩, (hb.mono (by omega)).setCell (by simp) _⟩
end Go.Proofs.Ytkcfcimophjomaa
